import Derived.Test.YtmkljjbioomepaaGreatd03
import Derived.Test.YtmkljjbioomepaaGreatProg
import Derived.Test.YtmkljjbioomepaaGreatd02
import Derived.RangeFuncNested
import Derived.RangeFuncBound
import Derived.RangeFuncCalls
import Derived.RangeFuncLeaves
import Derived.OwnWalkIn
import Derived.TacticsInMore
import Derived.WalkKit
import Derived.Shelf.Abstract
set_option linter.all false
set_option maxHeartbeats 4000000
set_option maxRecDepth 100000
namespace Go.Proofs.YtmkljjbioomepaaGreat
open Go.Proofs.Tryz Go.bs
variable {B:Nat} {K:Int->Int->Int->Int->Int->Int->an->Nat->Nat->Int->Int->Prop} {L:List a0} {M:a6} {N:ax->aF} {P:Program} {Q:Exit->Act->aF} {a:an} {bx:aX} {env:ax} {m:a0} {n:Int} {v:aG} {w:ak}
section
theorem Nx {u:ak} {n cap:Nat} (i:a1 u eG 3 a n cap (gw L).flatten) (s:n=L.length) (o:n<=1000000) {K:Nat->an->Nat->Nat->aF}
  (r:∀ b ap e g,b=u.heap.size->a1 g eG 3 ap (n+1) e (gw (L++[m])).flatten->ao (aL a) u g->(∀ k,aL ap k->aL a k\/u.heap.size<=k)->K b ap (n+1) e g) :
  ∀ b1 j,b1=u.heap.size->j=u.alloc (.cells m.cells.toArray eG)->∃ (ap:an) (d c:Nat),∃ g,(Builtin.append_ #[z7,z7] z7 #[(.slice a n cap),(.slice (some ⟨b1,0,none⟩) 1 1)]).run prog j=.ok (.slice ap d c) g/\K b1 ap d c g:=by
 obtain ⟨inf,q,au,f,p⟩:=fV (T:=eG) (z:=.agg #[.int .i64 0,.int .i64 0,.bool false]) (n:=3) (m:=24) (by kernel_rfl);rw [<-f] at i;refine oI Tryz.underlying33 q au (by rw [f];rfl) (by omega) i (by rw [f];rfl) (a0.single m) (by omega) (by omega) ?_;intro b ap e g l h;rw [f,<-JA] at h;exact r b ap e g l h
end
section
open IntKind
variable (w:ak) (R:cz) {i k:Int} {A B:aX} {j:ar}
theorem VR:bf prog f28 [ab i] R w=(aS w #[ab 0,a5] 35 λf l=>Calls prog 51 #[ab i] l λe k=>c2.ex λb=>∃ a,e=.returned (.tuple #[b.val,ab a])/\aS k #[ab 0,a5] 35 λh j=>a_ j (af h 0) 0 b.cells λg=>l5 g (af h 0) λr=>a_ g (af f 0) 0 r.cells λd=>l5 d (af f 0) λc=>d=d/\R c.val d):=by kernel_rfl
def xh (a:Int) (s2 b:aX) (c:Int) (j:ar):ar:=ab a::ag j 0 1 (.pointer (some s2)::ag j 1 1 (.pointer (some b)::ab c::ag j 2 21 []))
def Gh (a b:aX) (j:ar):ar:=ag j 0 2 (.pointer (some a)::ag j 2 1 (.pointer (some b)::ag j 3 22 []))
theorem VC:bf prog f51 [ab i] R w=(aS w #[ab 0,a5] 35 λc f=>cond (i<1) (a_ f (af c 0) 0 [ab 0,a5] λe=>l5 e (af c 0) λa=>e=e/\R (.tuple #[a.val,ab 1]) e) (cond (i>5) (a_ f (af c 0) 0 [ab 0,a5] λd=>l5 d (af c 0) λb=>d=d/\R (.tuple #[b.val,ab 1]) d) (aS f #[ab 0,a5] 35 λg j=>a_ j (af g 0) 0 [ab 0,a5] λh=>cG prog (c7 f51 [1,1,1,0,1,0,0]) (xh i (af c 0) (af g 0) 0 (undef::ab 0::ab i::ad (i<1)::ad false::ab i::ad (i>5)::ad (i>5)::undef::.agg #[ab 0,a5]::bD 13 [])) (aP 0 (aU f51 [1,1,1,1] R)) h))):=by kernel_rfl
theorem SJ (g:ar->aF):W prog (sb f51 [1,1,1,0,1,0,0]) (xh i A B k j) (aZ g (aP 0 (aU f51 [1,1,1,1] R))) w=(cond (k<i) (b_ w (bY B 1) λa b c=>aS w #[ab k,ab 1,ad true] 116 λh n=>db 33 (ae a b c) (ae (bo h) 1 1) n λe d f m=>cP m (bY B 1) (ae e d f) λl=>g (xh i A B (i64.wrap (k+1)) (ag j 0 10 [ab k,ab i,ad (k<i),ab k,ab (i64.wrap (k+1)),bL B 1,ae a b c,ab k,.agg #[ab k,ab 1,ad true],ae (bo h) 1 1,ae e d f,bL B 1,aO j 22])) l) (W prog (sb f51 [1,1,1,1]) (Gh A B (ab i::aO j 0::aO j 1::ab k::ag j 2 8 (ab k::ab i::ad (k<i)::ag j 13 10 []))) (b7 f51 R) w)):=by kernel_rfl
theorem Tu:W prog (sb f51 [1,1,1,1]) (Gh A B j) (b7 f51 R) w=(l5 w B λr=>a_ w A 0 r.cells λa=>l5 a A λc=>a=a/\R (.tuple #[c.val,ab 0]) a):=by kernel_rfl
end
section
structure QF (v:jt):Prop where
 num:0<=v.number/\v.number<16
 ee:∀ m ∈ v.mem,1<=m.cq
 ne:v.mem≠[]
 eB:v.mem.length<=5
abbrev Fm (A:Nat):a6:=λk=>k<A
theorem QG {c A:Nat} (b:a1 w eG 3 a L.length c (gw L).flatten) (f:L.length<=1000000) (d:∀ k,aL a k->A<=k):gp (Fm A) w ⟨n,a,L.length,c⟩ ⟨n,L⟩:=
 ⟨rfl,rfl,b.le,b.rd,hk b.rd λk e h=>Nat.lt_irrefl _ (gi h (d k e)),f⟩
theorem gp.mono {M':a6} {r:c2} {v:jt} (h:gp M w r v) (hm:∀ k,k<w.heap.size->M' k->M k):gp M' w r v:=by
 refine ⟨h.num,h.len,h.cap,h.rd,?_,h.small⟩;rcases h.off with e | e
 ·exact .inl e
 ·rcases h.rd with a | ⟨b,o,a,f⟩
  ·exact .inl a
  ·by_cases he:(gw v.mem).flatten=[]
   ·exact .inl he
   ·rw [a] at e ⊢;refine .inr λd=>e (hm _ ?_ d)
    cases c:(gw v.mem).flatten with
    |nil=>exact absurd c he
    |cons x xs=>exact vU (f 0 x (by rw [c];rfl))
theorem gp.aA {M N:a6} {w w':ak} {r:c2} {v:jt} (h:gp M w r v) (d:ao N w w') (b:∀ k,N k->M k):gp M w' r v:=
 ⟨h.num,h.len,h.cap,h.rd.aA d (h.off.imp id λe=>by cases c:r.fh with
  |none=>exact trivial
  |some a=>rw [c] at e;exact λf=>e (b _ f)),h.off,h.small⟩
def stM (n:Nat):List a0:=(List.range n).map λ(i:Nat)=>⟨(i:Int),1,true⟩
theorem pQ (n:Nat):(stM n).length=n:=by simp [stM]
theorem L1 (n:Nat):stM (n+1)=stM n++[⟨(n:Int),1,true⟩]:=by simp [stM,ku]
theorem L2 {n:Nat} (h:m ∈ stM n):1<=m.cq:=by simp only [stM,cZ] at h;obtain ⟨i,_,rfl⟩:=h;exact Int.le_refl _
theorem JB (w:ak) (y:1<=n) (Xw:n<=5):bb 51 [.int .i64 n] w λx w'=>∃ (a:an) (c:Nat) (L:List a0),x=.tuple #[c2.val ⟨0,a,L.length,c⟩,.int .i64 0]/\a1 w' eG 3 a L.length c (gw L).flatten/\ai w w'/\L=stM n.toNat/\(∀ k,aL a k->w.heap.size<=k):=by
 refine bd Tryz.func51 ?_;rw [VC];rintro b1 w1 J G;obtain ⟨h,A⟩:=bl J G;have h:av w1 b1 (c2.cells ⟨0,none,0,0⟩) nu:=h;clear G;refine bc (λO=>absurd O (by omega)) (λ_=>bc (λO=>absurd O (by omega)) (λ_=>?_))
 refine ec (vs:=c2.cells ⟨0,none,0,0⟩) rfl (c2.single _) λaB Xz U P B=>?_
 have H:=ai.aj B h;have z:=A.new B;have Y:=A.size;have Q:=h.lt;refine c8 mix (λm env u=>∃ (i:Nat) (a:an) (c:Nat) (L:List a0) (R:ax),m=n.toNat - i/\i<=n.toNat/\env=xh n ⟨b1,0,none⟩ ⟨aB,0,none⟩ i R/\ai w u/\av u b1 (c2.cells ⟨0,none,0,0⟩) nu/\av u aB (c2.cells ⟨0,a,L.length,c⟩) nu/\a1 u eG 3 a L.length c (gw L).flatten/\(∀ k,aL a k->aB<k)/\L=stM i) n.toNat
  ⟨0,none,0,[],_,by omega,by omega,rfl,z,H,P,a1.nil _ _ _,(λk f=>by obtain ⟨o,W⟩:=f;cases W),rfl⟩ ?_
 rintro m env u ⟨i,a,c,L,R,rfl,Xx,rfl,C,t,g,l,d,p⟩;have T:L.length=i:=by rw [p,pQ]
 rw [SJ];refine bc (λX=>?_) (λX=>?_)
 ·refine ⟨_,_,_,g.cell (i:=1) rfl,?_⟩;refine Nx l rfl (m:=⟨i,1,true⟩) (by omega) ?_;intro Xv ap cap bq V N r I;have D:=r.aj t λe=>by have:=d b1 e;omega
  have E:=r.aj g λe=>by have:=d aB e;omega
  have Z:=g.lt;have j:∀ k,aL ap k->aB<k:=λk f=>by
   rcases I k f with y | y
   ·exact d k y
   ·omega
  refine rU (b:=aB) E (o:=0+1) (by simp [c2.cells]) λXy F s=>?_
  rw [bH (by omega) (by omega)];refine ⟨n.toNat - (i+1),by omega,i+1,ap,cap,L++[⟨i,1,true⟩],_,rfl,by omega,rfl,?_,s.aj D (by omega),?_,?_,j,by rw [p,L1]⟩
  ·have y:ai w bq:=sF C r λk f=>by have:=d k f;omega
   exact y.trans s λk M e=>by omega
  ·rw [dy];exact F
  ·rw [dy];exact a1.aA s N λk f e=>by have:=j k f;omega
 ·have K:i=n.toNat:=by omega
  rw [Tu];refine c2.aT ⟨0,a,L.length,c⟩ ⟨bO g rfl,?_⟩;refine ⟨gq t (by simp [c2.cells]) (c2.single _),λS hu=>?_⟩;have f:ao (λk=>k=b1) u S:=by rw [hu];exact h7 _ _ _ _ _
  have au:av S b1 (c2.cells ⟨0,a,L.length,c⟩) nu:=by rw [hu];exact t.cu
  refine c2.aT ⟨0,a,L.length,c⟩ ⟨bO au rfl,rfl,a,c,L,rfl,?_,?_,by rw [p,K],?_⟩
  ·exact a1.aA f l λk q e=>by have:=d k q;omega
  ·exact C.trans f λk M e=>by omega
  ·intro k q;have:=d k q;omega
theorem y_ (w:ak) (G:1<=n) (H:n<=5):bb 28 [.int .i64 n] w λx w'=>∃ r v,x=c2.val r/\gp (Fm w.heap.size) w' r v/\ai w w'/\QF v/\v=⟨0,stM n.toNat⟩:=by
 refine bd Tryz.func28 ?_;rw [VR];rintro b1 w1 z y;obtain ⟨l,q⟩:=bl z y;have l:av w1 b1 (c2.cells ⟨0,none,0,0⟩) nu:=l;clear y;refine aD (JB w1 G H) ?_;rintro v N ⟨a,c,L,rfl,u,s,f,B⟩;have p:(L.length:Int)=n:=by rw [f,pQ];omega
 have A:∀ m ∈ L,1<=m.cq:=λm hm=>L2 (f▸hm)
 refine c2.aT ⟨0,a,L.length,c⟩ ⟨_,rfl,?_⟩;refine ec (vs:=c2.cells ⟨0,a,L.length,c⟩) rfl (c2.single _) λaB M I D j=>?_
 refine c2.aT ⟨0,a,L.length,c⟩ ⟨bO D rfl,?_⟩;have d:=ai.aj (s.new j) l;have b:=a1.new j u;refine ⟨gq d (by simp [c2.cells]) (c2.single _),λF hu=>?_⟩;have E:ao (λk=>k=b1) M F:=by rw [hu];exact h7 _ _ _ _ _
 have au:av F b1 (c2.cells ⟨0,a,L.length,c⟩) nu:=by rw [hu];exact d.cu
 have C:∀ k,aL a k->k≠b1:=λk i e=>by
  subst e;obtain ⟨o,t⟩:=i;rcases b.2 with ⟨h,_⟩ | ⟨g,cur,he,J,_⟩
  ·rw [h] at t;cases t
  ·rw [he] at t;simp at t;exact absurd (J.uniq (t.1▸d)).2 (by decide)
 refine c2.aT ⟨0,a,L.length,c⟩ ⟨bO au rfl,rfl,_,⟨0,L⟩,rfl,QG (a1.aA E b C) (by omega) (λk i=>by have:=B k i;have:=q.size;omega),?_,⟨⟨by simp,by simp⟩,A,λe=>?_,?_⟩,by rw [f]⟩
 ·exact (q.new (s.new j)).trans E λk K e=>by omega
 ·have e:L=[]:=e;rw [e] at p;simp at p <;> omega
 ·show L.length<=5;omega
end
section
open IntKind
variable (w:ak) (R:cz) {X:a4} {a:Nat} {i k:Int} {j:ar}
theorem Ip (a b c d f g:Int) (h:an) (i k:Nat) (l m:Int) (w:ak) (R:cz):bf prog f130 [.agg #[ab a,ab b,ab c,ab d,ah f,ah g,ae h i k,ah l,ab m]] R w=(aS w #[ab a,ab b,ab c,ab d,ah f,ah g,ae h i k,ah l,ab m] 158 λb1 w1=>bX w1 (af b1 0) λn=>cond (n == 1) (bX w1 (af b1 3) λe=>R (ab e) w1) (cond (n == 2) (b_ w1 (af b1 6) λo p q=>R (ab (p:Nat)) w1) (cond (n == 3) (cond (n == 3) (R (ab 1) w1) (R (ab 0) w1)) (cond (n == 4) (R (ab 1) w1) (R (ab 0) w1))))):=by kernel_rfl
theorem Xe (a b c d f g:Int) (h:an) (i k:Nat) (l m:Int) (w:ak) (R:cz):bf prog f138 [.agg #[ab a,ab b,ab c,ab d,ah f,ah g,ae h i k,ah l,ab m]] R w=(aS w #[ab a,ab b,ab c,ab d,ah f,ah g,ae h i k,ah l,ab m] 158 λb1 w1=>R (.func (.func 186) #[] #[ba b1]) w1):=by kernel_rfl
def xx (a:a4) (b c:Int) (j:ar):ar:=a::ag j 0 2 (ab b::ab c::ag j 2 24 [])
theorem WM:bf prog f186 [X,ba a] R w=(cw w λq j=>cV j (af a 2) λo=>mM j (af a 0) λe b c p d f g h i k l=>ct 130 #[.agg #[ab e,ab b,ab c,ab p,ah d,ah f,ae g h i,ah k,ab l]] q λm n=>j n/\cG prog (c7 f186 [1,0,0]) (xx X o m (jp (af a 0)::bD 2 (jp (af a 2)::ab o::.agg #[ab e,ab b,ab c,ab p,ah d,ah f,ae g h i,ah k,ab l]::ab m::bD 19 []))) (aP 0 (b7 f186 R)) n):=by kernel_rfl
theorem TV (b:ar->aF):W prog (sb f186 [1,0,0]) (xx X i k j) (aZ b (aP 0 (b7 f186 R))) w=(cond (k>0) (jk prog X #[.agg #[ab i,ab (if ((i64.wrap (8 - (Int.tmod i 8))):Int)<k then ((i64.wrap (8 - (Int.tmod i 8))):Int) else k)]] w λe c=>∃ a,e=.returned (ad a)/\cond (!a) (R (.tuple #[]) c) (b (xx X (i64.wrap (i+(if ((i64.wrap (8 - (Int.tmod i 8))):Int)<k then ((i64.wrap (8 - (Int.tmod i 8))):Int) else k))) (i64.wrap (k - (if ((i64.wrap (8 - (Int.tmod i 8))):Int)<k then ((i64.wrap (8 - (Int.tmod i 8))):Int) else k))) (aO j 0::aO j 1::ab (if ((i64.wrap (8 - (Int.tmod i 8))):Int)<k then ((i64.wrap (8 - (Int.tmod i 8))):Int) else k)::ag j 3 4 [ab k,ad (k>0),ab k,ab i,ab (Int.tmod i 8),ab (i64.wrap (8 - (Int.tmod i 8))),ab (if ((i64.wrap (8 - (Int.tmod i 8))):Int)<k then ((i64.wrap (8 - (Int.tmod i 8))):Int) else k),X,ab i,ab (if ((i64.wrap (8 - (Int.tmod i 8))):Int)<k then ((i64.wrap (8 - (Int.tmod i 8))):Int) else k),.agg #[ab i,ab (if ((i64.wrap (8 - (Int.tmod i 8))):Int)<k then ((i64.wrap (8 - (Int.tmod i 8))):Int) else k)],ad a,ad (!a),ab i,ab (if ((i64.wrap (8 - (Int.tmod i 8))):Int)<k then ((i64.wrap (8 - (Int.tmod i 8))):Int) else k),ab (i64.wrap (i+(if ((i64.wrap (8 - (Int.tmod i 8))):Int)<k then ((i64.wrap (8 - (Int.tmod i 8))):Int) else k))),ab k,ab (if ((i64.wrap (8 - (Int.tmod i 8))):Int)<k then ((i64.wrap (8 - (Int.tmod i 8))):Int) else k),ab (i64.wrap (k - (if ((i64.wrap (8 - (Int.tmod i 8))):Int)<k then ((i64.wrap (8 - (Int.tmod i 8))):Int) else k)))])) c)) (R (.tuple #[]) w)):=by kernel_rfl
end
section
theorem jl (h:cf w bx 0 v.cells)
  (a:K v.Kind v.Node v.bZ v.N v.Old v.ai v.Words v.cQ v.cJ v.Key v.cq) :
  ∃ (Kind:Int) (Node:Int) (bZ:Int) (N:Int) (Old:Int) (ai:Int) (Words:an) (cQ:Nat) (cJ:Nat) (Key:Int) (cq:Int),
   cf w bx 0 [.int .i64 Kind,.int .i64 Node,.int .i64 bZ,.int .i64 N,.int .u64 Old,.int .u64 ai,.slice Words cQ cJ,.int .u64 Key,.int .i64 cq]/\K Kind Node bZ N Old ai Words cQ cJ Key cq:=
 ⟨_,_,_,_,_,_,_,_,_,_,_,h,a⟩
theorem mQ {S:aF} (h:∀ u,S u->cf u bx 0 v.cells)
  (a:K v.Kind v.Node v.bZ v.N v.Old v.ai v.Words v.cQ v.cJ v.Key v.cq) :
  ∃ (Kind:Int) (Node:Int) (bZ:Int) (N:Int) (Old:Int) (ai:Int) (Words:an) (cQ:Nat) (cJ:Nat) (Key:Int) (cq:Int),
   (∀ u,S u->cf u bx 0 [.int .i64 Kind,.int .i64 Node,.int .i64 bZ,.int .i64 N,.int .u64 Old,.int .u64 ai,.slice Words cQ cJ,.int .u64 Key,.int .i64 cq])/\K Kind Node bZ N Old ai Words cQ cJ Key cq:=
 ⟨_,_,_,_,_,_,_,_,_,_,_,h,a⟩
abbrev cF:TypeId:=158
theorem hf {b:Nat} (h:av w b v.cells cF):cf w ⟨b,0,none⟩ 0 v.cells:=bO h (by simp [aG.cells])
theorem oR (w:ak) (v:aG):av (w.alloc (.cells v.cells.toArray cF)) w.heap.size v.cells cF:=pA _ _ _
def aG.count (v:aG):Int:=if v.Kind=1 then v.N else if v.Kind=2 then v.cQ else if v.Kind=3\/v.Kind=4 then 1 else 0
theorem vV (w:ak) (v:aG):bb 130 [v.val] w λx w'=>x=.int .i64 v.count/\ai w w':=by
 refine bd Tryz.func130 ?_;refine Eq.mpr (Ip v.Kind v.Node v.bZ v.N v.Old v.ai v.Words v.cQ v.cJ v.Key v.cq w _) ?_;rintro b1 w1 rfl rfl;have f:=oR w v;have a:=hy w (.cells v.cells.toArray cF);refine ⟨_,f.cell rfl,d' (λc=>⟨_,f.cell rfl,?_,a⟩) (λc=>d' (λd=>⟨_,_,_,f.cell rfl,?_,a⟩) (λd=>d' (λb=>d' (λ_=>⟨?_,a⟩) (λh=>absurd b h)) (λb=>d' (λe=>⟨?_,a⟩) (λe=>⟨?_,a⟩))))⟩
 ·simp [aG.count,c]
 ·simp [aG.count,d]
 ·simp [aG.count,b]
 ·simp [aG.count,e]
 ·simp [aG.count,c,d,b,e]
end
section
open Go.RowKit
def FR (x:Int×Int):Array a4:=#[.agg #[.int .i64 x.1,.int .i64 x.2]]
def hL:Nat->Int->Int->List (Int×Int)
 | 0,_,_=>[]
 |f+1,at_,left=>if left<=0 then [] else (at_,if 8 - at_ % 8<left then 8 - at_ % 8 else left)::
   hL f (at_+(if 8 - at_ % 8<left then 8 - at_ % 8 else left)) (left - (if 8 - at_ % 8<left then 8 - at_ % 8 else left))
def aG.pieces (v:aG):List (Int×Int):=hL v.count.toNat v.bZ v.count
theorem Ii {w':ak} (h:Go.bs.ai w w'):w.grownBy w' none:=⟨h.os,h.tape,h.output,h.size,λk a _=>h.block k a id⟩
theorem JC {m:Nat} {l:Nat} {args:Array a4} {W:ak} {R:Ending->aF} (h:YieldAt Fence.wide m P l args W R) (k:Nat):YieldAt Fence.wide k P l args W R:=by obtain ⟨fn,tmps,assign,body,b,a⟩:=h;exact ⟨fn,tmps,assign,body,b,a.1,λc cs _=>a.2 c cs (room_wide _)⟩
theorem JD (n l d S:Nat) (v:aG) (a9 w:List (Int×Int)->aF) (A:0<=v.bZ) (I:v.bZ<=1000000) (J:1<=v.count) (K:v.count<=1000000) (W:ak)
  (G:AbidesFrom W.heap.size a9) (H:∀ pre x W,a9 pre W->pre.length<v.pieces.length->YieldAt Fence.wide (n - 1) prog l (FR x) W λe W'=>
   (e=.returned (.bool true)/\a9 (pre++[x]) W'/\Below S W W')\/(e=.returned (.bool false)/\w (pre++[x]) W'))
  (g:∀ u,Below (d+1) W u->cf u ⟨d,0,none⟩ 0 v.cells) (U:d+1<=W.heap.size) (F:a9 [] W) :
  CallsIn Fence.wide n prog 186 #[.func (.yield l) #[] #[],.pointer (some ⟨d,0,none⟩)] W λe W'=>(∃ v,e=.returned v)/\
   ((∃ ys,ys=v.pieces/\a9 ys W')\/(∃ pre,pre <+: v.pieces/\w pre W')):=by
 refine callsIn_wide.2 (Calls.mono (R:=λe w'=>∃ x,e=.returned x/\((∃ ys,ys=v.pieces/\a9 ys w')\/(∃ pre,pre <+: v.pieces/\w pre w'))) ?_ λe w' ⟨x,P,O⟩=>⟨⟨x,P⟩,O⟩);refine bd Tryz.func186 (args:=[.func (.yield l) #[] #[],.pointer (some ⟨d,0,none⟩)]) (R:=λ_ w'=>(∃ ys,ys=v.pieces/\a9 ys w')\/(∃ pre,pre <+: v.pieces/\w pre w')) ?_;rw [WM];intro w1 t;have q:Go.bs.ai W w1:=by rw [t];exact cK _
 clear t;have o:∀ u,Go.bs.ai w1 u->Below (d+1) W u:=λu hu=>(q.new hu).below (by omega) λ_ _ h=>h
 refine ⟨λu=>Go.bs.ai w1 u,ao.refl _ _,v.bZ,λu hu=>?_,?_⟩
 ·have:=g u (o u hu);exact this.2.2.1
 refine mQ (v:=v) (λu hu=>g u (o u hu)) ?_;refine aD (vV _ v) ?_;rintro r T ⟨rfl,s⟩;refine ⟨_,rfl,s,?_⟩;have y:a9 [] T:=G _ _ _ none F (Ii (q.new s)) (λ_ h=>by cases h);refine c8 mix (λm env u=>∃ (f:Nat) (at_ left:Int) (E:ax) (pre:List (Int×Int)),m=f/\left<=f/\0<=at_/\0<=left/\at_+left<=2000000/\env=xx (.func (.yield l) #[] #[]) at_ left E/\v.pieces=pre++hL f at_ left/\a9 pre u) v.count.toNat
  ⟨v.count.toNat,v.bZ,v.count,_,[],rfl,by omega,A,by omega,by omega,rfl,rfl,y⟩ ?_
 rintro f env u ⟨_,at_,left,E,pre,rfl,M,B,hle,D,rfl,a,i⟩;rw [TV];refine bc (λN=>?_) (λN=>?_)
 ·obtain ⟨b,rfl⟩:∃ b,f=b+1:=⟨f - 1,by omega⟩;have p:Int.tmod at_ 8=at_ % 8:=yI B
  rw [p,bH (x:=8 - at_ % 8) (by omega) (by omega)];generalize C:(if 8 - at_ % 8<left then 8 - at_ % 8 else left)=k;have L:1<=k/\k<=left/\k<=8:=by rw [<-C];split<;>omega
  have c:hL (b+1) at_ left=(at_,k)::hL b (at_+k) (left - k):=by rw [hL,if_neg (by omega),C]
  rw [c] at a;have Q:=JC (H pre (at_,k) u i (by rw [a];simp)) 0;refine Exists.imp (λfn=>Exists.imp λtmps=>Exists.imp λassign=>Exists.imp λbody=>And.imp id λh=>RoundIn.mono h ?_) Q;rintro e V (⟨rfl,z,_⟩ | ⟨rfl,j⟩)
  ·refine ⟨_,rfl,di rfl ?_⟩;rw [bH (by omega) (by omega),bH (by omega) (by omega)];refine ⟨b,by omega,b,at_+k,left - k,_,pre++[(at_,k)],rfl,by omega,by omega,by omega,by omega,rfl,by rw [a];simp,z⟩
  ·exact ⟨_,rfl,gB rfl (.inr ⟨_,⟨hL b (at_+k) (left - k),by rw [a];simp⟩,j⟩)⟩
 ·refine .inl ⟨pre,?_,i⟩;have:left=0:=by omega
  subst this;rw [a];cases f<;>simp [hL]
end
section
open Go.RowKit
theorem AO:∀ (f:Nat) (at_ left:Int),0<=at_->∀ p ∈ hL f at_ left,at_<=p.1/\1<=p.2/\p.2<=8/\p.1+p.2<=at_+left
 | 0,_,_,_,p,a=>by simp [hL] at a
 |f+1,at_,left,b,p,a=>by
  unfold hL at a;split at a
  ·simp at a
  ·rename_i c;rcases eU.1 a with rfl | a
   ·simp only;split<;>omega
   ·have:=AO f _ _ (by split<;>omega) p a;split at this<;>omega
theorem Iq (f:Nat) (at_ left:Int) (h:1<=left) (a:1<=f):hL f at_ left≠[]:=by
 cases f with
 |zero=>omega
 |succ f=>unfold hL;rw [if_neg (by omega)];simp
theorem xP:∀ (f:Nat) (at_ left:Int),(hL f at_ left).length<=f
 | 0,_,_=>by simp [hL]
 |f+1,at_,left=>by
  unfold hL;split
  ·simp
  ·simp only [hh];have:=xP f (at_+(if 8 - at_ % 8<left then 8 - at_ % 8 else left)) (left - (if 8 - at_ % 8<left then 8 - at_ % 8 else left));omega
def n2 (cl:List (Int×Int)):List ax:=cl.map λp=>[.int .i64 p.1,.int .i64 p.2]
theorem KG (cl:List (Int×Int)):∀ r ∈ n2 cl,r.length=2:=by intro r a;simp only [n2,cZ] at a;obtain ⟨v,_,rfl⟩:=a;rfl
theorem KH {cl:List (Int×Int)} {i:Nat} {p:Int×Int} (h:cl[i]?=some p):(n2 cl)[i]?=some [.int .i64 p.1,.int .i64 p.2]:=by simp [n2,h]
abbrev qx:TypeId:=185
end
section
open Go.RowKit
theorem zT (hm:P.follows .mixedOrders=true) {a b:Code} (h:W P a env (aZ N (λ_ _ _=>False)) w) (i:∀ env w,N env w->b.wp P Q (act env) w):(Code.seq a b).wp P Q (act env) w:=by
 refine wp_seq (wp_mono (pT hm a env _ w h) λe k w' f=>?_);obtain ⟨he,d,j,g⟩:=qV f;subst j;clear f;cases e with
 |normal=>exact i d w' g
 |panic c=>exact absurd rfl (he.1 c)
 |outgrown=>exact absurd rfl he.2
 | _=>exact g.elim
theorem L3 (w:ak) (v:aG):bb 138 [v.val] w λr w'=>r=.func (.func 186) #[] #[.pointer (some ⟨w.heap.size,0,none⟩)]/\av w' w.heap.size v.cells cF/\Go.bs.ai w w'/\w'.heap.size=w.heap.size+1:=by refine bd Tryz.func138 ?_;refine Eq.mpr (Xe v.Kind v.Node v.bZ v.N v.Old v.ai v.Words v.cQ v.cJ v.Key v.cq w _) ?_;rintro b1 w1 a b;obtain ⟨au,c⟩:=bl a b;refine ⟨by rw [a],a▸au,c,by rw [b];simp⟩
theorem PL (v:aG) (w:ak) (N:ax->aF):W prog (sub (bn f98) [0]) [v.val,undef,undef,undef,undef,undef,undef,undef,undef,undef,undef,undef,undef] (aZ N (λ_ _ _=>False)) w =
  (∀ b1 w1,b1=w.heap.size->w1=w.alloc (.cells v.cells.toArray 158)->N [v.val,.pointer (some ⟨b1,0,none⟩),.slice none 0 0,undef,undef,undef,undef,undef,undef,undef,undef,undef,undef] w1):=by kernel_rfl
theorem PM (v x:a4) (b:Nat) (w:ak) (N:ax->aF):W prog (sub (bn f98) [1,0]) [v,.pointer (some ⟨b,0,none⟩),x,undef,undef,undef,undef,undef,undef,undef,undef,undef,undef] (aZ N (λ_ _ _=>False)) w =
  (∀ b1 w1,b1=w.heap.size->w1=w.alloc (.cells #[.slice none 0 0] 181)->N [v,.pointer (some ⟨b,0,none⟩),x,.pointer (some ⟨b1,0,none⟩),undef,undef,undef,undef,undef,undef,undef,undef,undef] w1):=by kernel_rfl
def y' (o:Oper):Bool:=match o.op with | .defer _=>false | _=>true
def plain:Code->Bool
 | .region _ ops false=>ops.toList.all y'
 | _=>false
theorem JE {o:Oper} {a:Act} {next next':Act->aF} (r n:Nat) (g:∀ a w,next a w->next' a w):∀ {x:Result Next},o.uponIn Fence.wide 0 P a next Q x->o.uponIn (Fence.wide.inRound r) n P a next' Q x
 | .ok (.value v) w',h=>g _ _ h
 | .ok .skip w',h=>g _ _ h
 | .ok (.defer d) w',h=>g _ _ h
 | .ok (.enter f args) w',h=>by
  refine ⟨λi=>by simp [Fence.wide] at i,trivial,λcs _=>?_⟩;obtain ⟨e,k,gv,b,j,p⟩:=h.2.2 cs (room_wide _);refine ⟨e,k,gv,?_,j,p⟩;cases e with
  |returned v=>exact g _ _ b
  |panicked c=>exact b
  |outgrown=>exact b
 | .ok (.row row args) w',h=>by refine ⟨λi=>by simp [Fence.wide] at i,λc cs _=>?_⟩;obtain ⟨v,k,b,j⟩:=h.2 c cs (room_wide _);exact ⟨v,k,g _ _ b,j⟩
 | .ok (.round l f tmps assign body) w',h=>by
  refine ⟨λi=>by simp [Fence.wide] at i,trivial,λc cs _=>?_⟩;obtain ⟨e,k,b,j⟩:=h.2.2 c cs (room_wide _);refine ⟨e,k,?_,j⟩;cases e with
  |returned v=>exact g _ _ b
  |panicked c=>exact b
  |outgrown=>exact b
 | .halt (.panic v) w',h=>h
 | .halt (.stuck s) w',h=>by cases h
theorem B1 {P:Program} {ops:Array Oper} {Q:Exit->Act->aF} (r n:Nat):∀ (l:List Oper) (a:Act) (w:ak),(∀ o ∈ l,y' o=true)->wpListIn Fence.wide 0 P ops Q l a w->wpListIn (Fence.wide.inRound r) n P ops Q l a w
 | [],_,_,_,h=>h
 |o::l,a,w,aq,h=>by
  have d:=λa w=>B1 (P:=P) (ops:=ops) (Q:=Q) r n l a w λo f=>aq o (fw _ f)
  unfold wpListIn at h ⊢;split at h
  ·rename_i hw;rw [if_pos hw];refine ⟨λ_ _=>trivial,?_⟩;have b:=h.2;rw [show Fence.wide.round=none from rfl,Oper.semAt_none] at b;rw [show (Fence.wide.inRound r).round=some r from rfl,Oper.semAt_some _ _ _ (λc e=>by have:=aq o eO;simp [y',e] at this)];exact JE r n d b
  ·rename_i hw;rw [if_neg hw];exact ⟨λ_ _=>trivial,d _ _ h.2⟩
theorem D6 {c:Code} (a:plain c=true) {Q:Exit->ax->aF} (r n:Nat) (h:W P c env Q w):c.wpIn (Fence.wide.inRound r) n P (qg Q) (act env) w:=by
 cases c with
 |region id ops d=>
  cases d with
  |true=>simp [plain] at a
  |false=>unfold W at h;refine wpIn_region_list (B1 r n _ _ _ (λo e=>?_) (oJ (all:=ops.toList) ops.toList env w (Q .normal) (λenv w b=>jx b ⟨λ_=>by simp,by simp⟩) h));simp only [plain,fE] at a;exact a o e
 | _=>simp [plain] at a
theorem PN (v x:a4) (b aB:Nat) (w:ak) (N:ax->aF):W prog (sub (bn f98) [1,1,0,0]) [v,.pointer (some ⟨b,0,none⟩),x,.pointer (some ⟨aB,0,none⟩),undef,undef,undef,undef,undef,undef,undef,undef,undef] (aZ N (λ_ _ _=>False)) w =
  (∃ (Kind:Int) (Node:Int) (bZ:Int) (d:Int) (Old:Int) (ai:Int) (Words:an) (c:Nat) (a:Nat) (Key:Int) (cq:Int),cf w ⟨b,0,none⟩ 0 [(.int .i64 Kind),(.int .i64 Node),(.int .i64 bZ),(.int .i64 d),(.int .u64 Old),(.int .u64 ai),(.slice Words c a),(.int .u64 Key),(.int .i64 cq)]/\
   Calls prog 138 #[(.agg #[(.int .i64 Kind),(.int .i64 Node),(.int .i64 bZ),(.int .i64 d),(.int .u64 Old),(.int .u64 ai),(.slice Words c a),(.int .u64 Key),(.int .i64 cq)])] w λe f=>∃ r,e=.returned r/\
    N [v,.pointer (some ⟨b,0,none⟩),x,.pointer (some ⟨aB,0,none⟩),undef,(.agg #[(.int .i64 Kind),(.int .i64 Node),(.int .i64 bZ),(.int .i64 d),(.int .u64 Old),(.int .u64 ai),(.slice Words c a),(.int .u64 Key),(.int .i64 cq)]),r,undef,undef,undef,undef,undef,undef] f):=by kernel_rfl
theorem QH (v x y z r:a4) (aB:Nat) (p:Int×Int) (w:ak) (N:ax->aF):W prog (sub (bn f98) [1,1,0,1,0,0]) [v,y,x,.pointer (some ⟨aB,0,none⟩),undef,z,r,.agg #[.int .i64 p.1,.int .i64 p.2],undef,undef,undef,undef,undef] (aZ N (λ_ _ _=>False)) w =
  (∀ b1 w1,b1=w.heap.size->w1=w.alloc (.cells #[.int .i64 0,.int .i64 0] qx)->eh w1 ⟨b1,0,none⟩ 0 [.int .i64 p.1,.int .i64 p.2]/\∀ a,a=cu w1 ⟨b1,0,none⟩ 0 [.int .i64 p.1,.int .i64 p.2]->
   N [v,y,x,.pointer (some ⟨aB,0,none⟩),.pointer (some ⟨b1,0,none⟩),z,r,.agg #[.int .i64 p.1,.int .i64 p.2],undef,undef,undef,undef,undef] a):=by kernel_rfl
theorem QI (v x y z r t:a4) (aB f:Nat) (w:ak) (N:ax->aF):W prog (sub (bn f98) [1,1,0,1,0,1,0]) [v,y,x,.pointer (some ⟨aB,0,none⟩),.pointer (some ⟨f,0,none⟩),z,r,t,undef,undef,undef,undef,undef] (aZ N (λ_ _ _=>False)) w =
  (∃ (a:an) (n c:Nat),w.cell? ⟨aB,0,none⟩=some (.slice a n c)/\∃ (g h:Int),cf w ⟨f,0,none⟩ 0 [.int .i64 g,.int .i64 h]/\∀ b1 w1,b1=w.heap.size->w1=w.alloc (.cells #[.int .i64 g,.int .i64 h] qx)->
   ∃ (ap:an) (d b:Nat),∃ e,(Builtin.append_ #[181,181] 181 #[(.slice a n c),(.slice (some ⟨b1,0,none⟩) 1 1)]).run prog w1=.ok (.slice ap d b) e/\
    (∃ u,e.cell? ⟨aB,0,none⟩=some u)/\e.frozen? ⟨aB,0,none⟩=false/\∀ i,i=e.setCell ⟨aB,0,none⟩ (.slice ap d b)->
    N [v,y,x,.pointer (some ⟨aB,0,none⟩),.pointer (some ⟨f,0,none⟩),z,r,t,.slice a n c,.agg #[.int .i64 g,.int .i64 h],.slice (some ⟨b1,0,none⟩) 1 1,.slice ap d b,undef] i):=by kernel_rfl
end
section
open Go.RowKit Go.Shelf
abbrev ot:TypeId:=181
theorem JF (cl:List (Int×Int)) (p:Int×Int):(n2 (cl++[p])).flatten=(n2 cl).flatten++[.int .i64 p.1,.int .i64 p.2]:=by simp [n2]
def wM (w:ak) (aB B:Nat) (pre:List (Int×Int)) (u:ak):Prop:=
 ∃ a cap,av u aB [.slice a pre.length cap] ot/\a1 u qx 2 a pre.length cap (n2 pre).flatten/\(∀ k,aL a k->w.heap.size<=k/\k≠aB)/\Go.bs.ai w u/\B<=u.heap.size
theorem tu {W W':ak} {row:Option Nat} {k:Nat} {cs:ax} {T:TypeId} (d:∀ r,row=some r->B<=r/\∃ o:Obj,W.heap[r]?=some o/\o.isCells=false) (b:av W k cs T):some k≠row:=by intro h;obtain ⟨_,o,a,c⟩:=d k h.symm;rw [show W.heap[k]?=_ from b] at a;cases a;simp [Obj.isCells] at c
theorem Ny {aB:Nat} (q:w.heap.size<=B):OwnFrom B (wM w aB B):=by
 rintro pre W W' row ⟨a,cap,f,j,l,o,p⟩ i d;have c:=sx i;refine ⟨a,cap,c.aj f (tu (W':=W') d f),?_,l,o.trans c (λk n e=>?_),lE p i.size⟩
 ·refine ⟨j.1,?_⟩;rcases j.2 with h | ⟨g,cur,he,b,rest⟩
  ·exact .inl h
  ·exact .inr ⟨g,cur,he,c.aj b (tu (W':=W') d b),rest⟩
 ·have:=(d k e.symm).1;omega
def o4 (v:a4) (b1 aB b a:Nat) (x:Int×Int):ax:=
 [v,.pointer (some ⟨b1,0,none⟩),.slice none 0 0,.pointer (some ⟨aB,0,none⟩),.pointer (some ⟨b,0,none⟩),v,.func (.func 186) #[] #[.pointer (some ⟨a,0,none⟩)],.agg #[.int .i64 x.1,.int .i64 x.2],undef,undef,undef,undef,undef]
theorem A0 {W W':ak} (h:ao M W W') (b:∀ k,M k->∃ cs T,av W k cs T):KeepsFrom B W W':=
 ⟨h.size,λk o _ a d=>by refine (h.block k (vl.1 a).1 (λhm=>?_)).trans a;obtain ⟨cs,T,c⟩:=b k hm;rw [show W.heap[k]?=_ from c] at a;cases a;simp [Obj.isCells] at d⟩
theorem KI {K:Act->aF} (h:∀ env w,N env w->K (act env) w):∀ e a w,qg (aZ N (λ_ _ _=>False)) e a w->Exit.then K Q e a w:=by
 intro e a w d;obtain ⟨he,env,rfl,b⟩:=qV d;cases e with
 |normal=>exact h _ _ b
 |panic c=>exact absurd rfl (he.1 c)
 |outgrown=>exact absurd rfl he.2
 | _=>exact b.elim
theorem I9 (w j:ak) (v:aG) (b1 aB d:Nat) (Xy:0<=v.bZ) (Xz:v.bZ<=1000000) (XG:1<=v.count) (XH:v.count<=1000000)
  (XB:av j aB [.slice none 0 0] ot) (Xw:av j d v.cells cF) (XN:j.heap.size=d+1) (XW:Go.bs.ai w j) (hle:w.heap.size<=aB) (Q:Exit->Act->aF)
  (dH:∀ D W,j.heap.size<=D->wM w aB j.heap.size v.pieces W->W.heap[D]?=some (.deferred (some []))->Q .normal { tmps:=(o4 v.val b1 aB 0 d (0,0)).toArray.setIfInBounds 4 undef |>.setIfInBounds 7 undef,defers:=[{ target:=.collected D,args:=#[] }] } W) :
  (Code.rangeFunc (.tmp 6) #[7] (sub (bn f98) [1,1,0,1,0,0]) (.block 1 (sub (bn f98) [1,1,0,1,0,1,0]))).wpIn Fence.wide 3 prog Q
   {tmps:=(o4 v.val b1 aB 0 d (0,0)).toArray.setIfInBounds 4 undef |>.setIfInBounds 7 undef,defers:=[] } j:=by
 have XP:w.heap.size<=j.heap.size:=XW.size;obtain ⟨inf,X7,au,F,XF⟩:=fV (T:=qx) (z:=.agg #[.int .i64 0,.int .i64 0]) (n:=2) (m:=16) (by kernel_rfl);have XL:v.pieces.length<=1000000:=by have:=xP v.count.toNat v.bZ v.count;unfold aG.pieces;omega
 refine wpIn_rangeFunc_ownH rfl (by omega) (gf:=186) (lb:=#[.pointer (some ⟨d,0,none⟩)]) rfl trivial (enters_of Tryz.func186 (by kernel_rfl) rfl)
  (encs:=FR) (Kp:=Below w.heap.size) (S:=λys=>ys=v.pieces) (Sp:=λpre=>pre <+: v.pieces) (N:=v.pieces.length) (w0:=j)
  (λl a9 XZ W eJ X3 X4 X5 Xv=>JD 2 l d w.heap.size v a9 XZ Xy Xz XG XH W X3 X5 (λu hu=>?_) (by have:=eJ.size;omega) Xv)
  belowK_t (belowK_b (by omega)) (Below.refl _ _) (λ_=>rfl) (wM w aB j.heap.size) (λ_ _ _=>False) (Ny XP) (λ_ _ _ _ _ XM _ _=>XM)
  ⟨none,0,XB,a1.nil _ _ _,(λk b=>by obtain ⟨o,r⟩:=b;cases r),XW,cY _⟩
  (λx Z W=>∃ A,Z=act (o4 v.val b1 aB A d x)/\av W A [.int .i64 x.1,.int .i64 x.2] qx) ?own ?assign ?body ?done ?stop
 ·have X_:=XN▸eJ;have X1:av u d v.cells cF:=by show u.heap[d]?=_;rw [hu.block d (by omega),eJ.block d (by omega)];exact Xw
  exact hf X1
 case own=>rintro x Z _ W W' row ⟨A,X6,XV⟩ XI X9;exact ⟨A,X6,(sx XI).aj XV (tu (W':=W') X9 XV)⟩
 case assign=>
  intro l pre x W K M Xx;suffices XM:∀ a:Act,a=act ((o4 v.val b1 aB 0 d x).set 4 undef)->Code.wpIn (Fence.wide.inRound l) (3 - 1 - 1) prog (sub (bn f98) [1,1,0,1,0,0]) (Exit.then K (λ_ _ _=>False)) a W from XM _ (by kernel_rfl)
  rintro _ rfl;refine wpIn_mono (D6 (by kernel_rfl) l _ (Q:=aZ (λenv u=>K (act env) u) (λ_ _ _=>False)) (env:=(o4 v.val b1 aB 0 d x).set 4 undef) ?_) (KI λ_ _ h=>h);refine Eq.mpr (QH v.val (.slice none 0 0) (.pointer (some ⟨b1,0,none⟩)) v.val (.func (.func 186) #[] #[.pointer (some ⟨d,0,none⟩)]) aB x W _) ?_;rintro A w1 I XO;obtain ⟨Y,XJ⟩:=bl I XO;refine ⟨gq Y (by simp) (by intro u hu;rcases eU.1 hu with rfl | hu;rfl;simp at hu;subst hu;rfl),?_⟩;rintro XY V;have XR:av XY A [.int .i64 x.1,.int .i64 x.2] qx:=by rw [V];exact Y.cu
  have b:Go.bs.ai W XY:=by rw [V];refine XJ.trans (h7 _ _ _ _ _) (λk b e=>?_);omega
  obtain ⟨a,cap,i,E,f,q,L⟩:=M;refine Xx _ _ (A0 b (λk h=>h.elim)) (b.below q.size (λ_ _ h=>h)) ⟨a,cap,ai.aj b i,a1.new b E,f,q.new b,lE L b.size⟩ ⟨A,rfl,XR⟩
 case body=>
  rintro l pre x Z W X' _ M ⟨A,rfl,I⟩ X8;refine wpIn_block ?_;refine wpIn_mono (D6 (by kernel_rfl) l _ (Q:=aZ (λenv u=>KeepsFrom j.heap.size W u/\Below w.heap.size W u/\wM w aB j.heap.size (pre++[x]) u) (λ_ _ _=>False)) (env:=o4 v.val b1 aB A d x) ?_) ?_
  ·refine Eq.mpr (QI v.val (.slice none 0 0) (.pointer (some ⟨b1,0,none⟩)) v.val (.func (.func 186) #[] #[.pointer (some ⟨d,0,none⟩)]) (.agg #[.int .i64 x.1,.int .i64 x.2]) aB A W _) ?_;obtain ⟨a,cap,i,E,f,q,L⟩:=M;refine ⟨a,pre.length,cap,i.cell rfl,x.1,x.2,bO I (by simp),?_⟩;rintro X0 Ya XD XQ;obtain ⟨XS,C⟩:=bl XD XQ;have H:=a1.new C E;rw [<-F] at H;obtain ⟨ap,p,XT,U,y,O,XA⟩:=a1.append (P:=prog) (t:=ot) (ty:=ot) Tryz.underlying181 X7 au (by rw [F];rfl) (by omega) H
    (s:=some ⟨X0,0,none⟩) (m:=1) (c:=1) (news:=[.int .i64 x.1,.int .i64 x.2]) (by rw [F];rfl) (fu XS (by simp)) (by intro u hu;rcases eU.1 hu with rfl | hu;rfl;simp at hu;subst hu;rfl) (by omega) (by rw [XF];omega)
   rw [F] at y;have XK:¬ aL a aB:=λh=>(f aB h).2 rfl
   have J:av XT aB [.slice a pre.length cap] ot:=O.aj (ai.aj C i) XK;refine ⟨ap,pre.length+1,p,XT,U,⟨_,J.cell rfl⟩,J.frozen,?_⟩;rintro XU X;have R:ao (λk=>k=aB) XT XU:=by rw [X];exact eX _ _ _ _
   have XE:av XU aB [.slice ap (pre.length+1) p] ot:=by rw [X];exact J.setCell _
   have XC:aB<W.heap.size:=i.lt;have G:∀ k,aL ap k->w.heap.size<=k/\k≠aB:=by
    intro k b;rcases XA with e | e
    ·exact f k (e▸b)
    ·obtain ⟨o,r⟩:=b;rw [e] at r;simp at r;have:=C.size;omega
   have B:ao (λk=>aL a k\/k=aB) W XU:=(((ao.b9 C).trans O (λ_ _ h=>.inl h)).trans R (λ_ _ h=>.inr h));refine ⟨A0 B (λk b=>?_),B.below q.size (λk b hm=>?_),ap,p,?_,?_,G,?_,lE L B.size⟩
   ·rcases b with b | rfl
    ·rcases E.2 with ⟨he,_⟩ | ⟨g,cur,he,XI,_⟩
     ·obtain ⟨o,r⟩:=b;rw [he] at r;cases r
     ·obtain ⟨o,r⟩:=b;rw [he] at r;simp at r;exact ⟨cur,_,r.1▸XI⟩
    ·exact ⟨_,_,i⟩
   ·rcases hm with hm | rfl
    ·have:=(f k hm).1;omega
    ·omega
   ·simpa using XE
   ·rw [JF];have:=a1.aA R y (λk b=>(G k b).2);simpa using this
   ·refine q.trans B (λk b hm=>?_);rcases hm with hm | rfl
    ·have:=(f k hm).1;omega
    ·omega
  ·intro e a w Xv;obtain ⟨he,env,rfl,XX⟩:=qV Xv;cases e with
   |normal=>exact XX
   |panic c=>exact absurd rfl (he.1 c)
   |outgrown=>exact absurd rfl he.2
   | _=>exact XX.elim
 case done=>rintro D ys W X2 rfl M Xx;exact dH D W X2 M Xx
 case stop=>rintro D c pre W _ _ h _;exact h.elim
abbrev D7 (v:a4) (b1 aB a:Nat):Array a4:=(o4 v b1 aB 0 a (0,0)).toArray.setIfInBounds 4 undef |>.setIfInBounds 7 undef
theorem I_ (v:a4) (b1 aB b D:Nat) (R:Ending->aF) (W:ak) (a:an) (n cap:Nat) (e:av W aB [.slice a n cap] ot) (c:W.heap[D]?=some (.deferred (some []))) (d:R (.returned (.slice a n cap)) (W.putObj D (.deferred none))) :
  (sub (bn f98) [1,1,1]).wpIn Fence.wide 3 prog (bodyPostM Fence.wide 3 prog f98 R) { tmps:=D7 v b1 aB b,defers:=[{ target:=.collected D,args:=#[] }] } W:=by
 have f:W.cell? ⟨aB,0,none⟩=some (.slice a n cap):=e.cell rfl;simp only [bn,sub,f98,D7,o4]
 gi_wp2
 refine ⟨by simp,.inl ⟨_,_,rfl,run_takeDeferred c,?_⟩⟩;exact ⟨_,results_tmp (t:=2) rfl _ _ _,d⟩
theorem Ln (w:ak) (v:aG) (t:0<=v.bZ) (y:v.bZ<=1000000) (A:1<=v.count) (B:v.count<=1000000):bb 98 [v.val] w λx w'=>
  ∃ a cap,x=.slice a v.pieces.length cap/\a1 w' qx 2 a v.pieces.length cap (n2 v.pieces).flatten/\Go.bs.ai w w'/\(∀ k,aL a k->w.heap.size<=k):=by
 refine (callsIn_wide (n:=3)).1 ?_;refine callsIn_of_wp_marks (c:=.seq (sub (bn f98) [0]) (.seq (sub (bn f98) [1,0]) (.seq (.seq (sub (bn f98) [1,1,0,0]) (.block 0 (.rangeFunc (.tmp 6) #[7] (sub (bn f98) [1,1,0,1,0,0]) (.block 1 (sub (bn f98) [1,1,0,1,0,1,0]))))) (sub (bn f98) [1,1,1])))) Tryz.func98 (by kernel_rfl) trivial ?_ rfl;suffices K:∀ a:Act,a=act [v.val,undef,undef,undef,undef,undef,undef,undef,undef,undef,undef,undef,undef]->Code.wpIn Fence.wide 3 prog _ _ a w from K _ (by kernel_rfl)
 rintro _ rfl;refine wpIn_wide.2 ?_;refine zT mix (N:=λenv u=>∃ b1,env=[v.val,.pointer (some ⟨b1,0,none⟩),.slice none 0 0,undef,undef,undef,undef,undef,undef,undef,undef,undef,undef]/\b1=w.heap.size/\av u b1 v.cells cF/\Go.bs.ai w u/\u.heap.size=b1+1) ?_ ?_
 ·rw [PL];rintro b1 w1 b hw;obtain ⟨au,l⟩:=bl b hw;exact ⟨b1,rfl,b,au,l,by rw [hw,b];simp⟩
 rintro _ w1 ⟨b1,rfl,P,F,p,R⟩;refine zT mix (N:=λenv u=>∃ aB,env=[v.val,.pointer (some ⟨b1,0,none⟩),.slice none 0 0,.pointer (some ⟨aB,0,none⟩),undef,undef,undef,undef,undef,undef,undef,undef,undef]/\aB=w1.heap.size/\av u aB [.slice none 0 0] ot/\av u b1 v.cells cF/\Go.bs.ai w u) ?_ ?_
 ·rw [PM];rintro aB L b hw;obtain ⟨au,l⟩:=bl b hw;exact ⟨aB,rfl,b,au,ai.aj l F,p.new l⟩
 rintro _ L ⟨aB,rfl,z,G,q,E⟩;refine wp_seq ?_;refine zT mix (N:=λenv u=>∃ j,env=[v.val,.pointer (some ⟨b1,0,none⟩),.slice none 0 0,.pointer (some ⟨aB,0,none⟩),undef,v.val,.func (.func 186) #[] #[.pointer (some ⟨j,0,none⟩)],undef,undef,undef,undef,undef,undef]/\av u aB [.slice none 0 0] ot/\av u j v.cells cF/\u.heap.size=j+1/\Go.bs.ai w u) ?_ ?_
 ·rw [PN];refine jl (v:=v) (hf q) ?_;refine aD (L3 _ v) ?_;rintro r M ⟨rfl,f,d,i⟩;exact ⟨_,rfl,L.heap.size,rfl,ai.aj d G,f,i,E.new d⟩
 rintro _ M ⟨j,rfl,H,f,i,d⟩;refine (wpIn_wide (n:=3)).1 (wpIn_block ?_);refine I9 w M v b1 aB j t y A B H f i d (by rw [z];exact p.size) _ ?_;rintro D W S ⟨a,cap,b,J,O,l,K⟩ s;refine (wpIn_wide (n:=3)).1 (I_ v.val b1 aB j D _ W a _ cap b s ?_);have C:Go.bs.ai w (W.putObj D (.deferred none)):=by refine l.trans (sx (grownBy_putObj' W D _)) (λk I e=>?_);simp at e;have:=d.size;omega
 have o:∀ k cs T,av W k cs T->av (W.putObj D (.deferred none)) k cs T:=by
  intro k cs T b;refine (sx (grownBy_putObj' W D (.deferred none))).aj b (λe=>?_)
  simp at e;subst e;rw [show W.heap[k]?=_ from b] at s;cases s
 refine ⟨_,rfl,a,cap,rfl,?_,C,λk I=>(O k I).1⟩;refine ⟨J.1,?_⟩;rcases J.2 with h | ⟨g,cur,he,Q,rest⟩
 ·exact .inl h
 ·exact .inr ⟨g,cur,he,o _ _ _ Q,rest⟩
theorem Lo (w:ak) (v:aG) (b:0<=v.bZ) (c:v.bZ<=1000000) (d:1<=v.count) (f:v.count<=1000000):bb 98 [v.val] w λx w'=>
  ∃ a cap,x=.slice a v.pieces.length cap/\bk w' a (n2 v.pieces).flatten/\Go.bs.ai w w'/\(∀ k,aL a k->w.heap.size<=k):=
 Calls.mono (Ln w v b c d f) λe w' ⟨x,he,a,cap,j,i,h,g⟩=>⟨x,he,a,cap,j,a1.rd i,h,g⟩
end
end Go.Proofs.YtmkljjbioomepaaGreat
