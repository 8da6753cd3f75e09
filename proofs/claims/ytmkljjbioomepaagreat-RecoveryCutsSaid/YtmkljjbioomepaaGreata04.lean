import Derived.Test.YtmkljjbioomepaaGreata02
import Derived.Test.YtmkljjbioomepaaGreata03
import Derived.Test.YtmkljjbioomepaaGreatProg
import Derived.RangeFuncNested
import Derived.RangeFuncBound
import Derived.RangeFuncCalls
import Derived.RangeFuncLeaves
set_option linter.all false
set_option maxHeartbeats 4000000
set_option maxRecDepth 100000
namespace Go.Proofs.YtmkljjbioomepaaGreat
open Go.Proofs.Tryz Go.b8
variable {K:Int->Int->Int->Int->Int->Int->ax->Nat->Nat->Int->Int->Prop} {L l:List bp} {M:bB} {P:Program} {Q:Exit->Act->aV} {a:ax} {ch:bh} {c i:Nat} {env:aH} {m:bp} {n:Int} {r:e3} {v:a0} {w:av}
section
abbrev hN:TypeId:=116
abbrev x2:TypeId:=35
abbrev Sq:TypeId:=33
def kL (l:List bp):List aH:=l.map bp.cells
theorem aii (l:List bp) (m:bp):(kL (l++[m])).flatten=(kL l).flatten++m.cells:=by simp [kL]
structure pH where
 number:Int
 mem:List bp
def qD:bp:=⟨0,0,false⟩
def rA (n:Int) (l:List bp) (i:Nat):Bool:=
 decide (0<=(l.getD i qD).Node/\(l.getD i qD).Node<n) && (decide (i=0) || decide ((l.getD (i - 1) qD).Node<(l.getD i qD).Node))
def wS (m:bp):Bool:=decide (1<=m.dJ/\m.dJ<=31)
def pH.valid (v:pH) (n:Int):Int:=
 if ¬ (1<=n/\n<=5) then 1 else if v.number<0\/16<=v.number then 2 else if v.mem.length=0 then 1
 else if (List.range v.mem.length).all (rA n v.mem)=false then 1 else if v.mem.all wS=false then 2 else if v.mem.any bp.Full=false then 13 else 0
structure ky (M:bB) (w:av) (r:e3) (v:pH):Prop where
 num:r.Number=v.number
 len:r.h6=v.mem.length
 cap:r.h6<=r.iJ
 rd:bW w r.h1 (kL v.mem).flatten
 off:(kL v.mem).flatten=[]\/kR M r.h1
 small:v.mem.length<=1000000
theorem ky.new {M:bB} {w w':av} {r:e3} {v:pH} (h:ky M w r v) (aj:ai w w'):ky M w' r v:=⟨h.num,h.len,h.cap,h.rd.new aj,h.off,h.small⟩
theorem aiz (w:av) (n:Int):bK 200 [.int .i64 n] w λv w'=>v=.bool (decide (1<=n/\n<=5))/\w'=w:=by
 refine bO Tryz.func200 ?_;rw [aCx];refine bL (λh=>⟨?_,rfl⟩) (λh=>⟨?_,rfl⟩)
 ·congr 1;simp;omega
 ·congr 1;simp;omega
theorem ajp (w:av) (m:bp):bK 202 [m.val] w λv w'=>v=.bool m.Full/\ai w w':=by refine bO Tryz.func202 ?_;rw [aCD];rintro b1 w1 bA br;obtain ⟨aE,aj⟩:=b4 bA br;exact ⟨_,aE.cell rfl,rfl,aj⟩
theorem amF:oq prog 202=true:=by kernel_rfl
section
attribute [local irreducible] oq px xI
theorem ahK (h:bW w a (kL l).flatten) (au:l.length<=1000000) :
  bK 234 [.slice a l.length c,.func (.func 202) #[] #[]] w λv w'=>∃ z:Int,v=.int .i64 z/\(decide (z>=0)=l.any bp.Full)/\ai w w':=by
 refine bO Tryz.func234 ?_;rw [aue];refine e2 mix (λm env u=>∃ (i:Nat) (aT:aH),m=l.length - i/\i<=l.length/\env=Nv a l.length c (.func (.func 202) #[] #[]) l.length i aT/\ai w u/\(l.take i).any bp.Full=false) l.length
  ⟨0,_,by omega,by omega,rfl,ay.refl _ _,rfl⟩ ?_
 rintro m env u ⟨i,aT,rfl,aD,rfl,aj,fp⟩;rw [apC];refine bL (λar=>?_) (λar=>?_)
 ·have aK:i<l.length:=by omega
  have a':l[i]?=some l[i]:=cp aK;refine hq (cells:=bp.cells) bp.len (by omega) (h.new aj) a' rfl rfl λb o ab _=>bp.bd l[i] ⟨ab,?_⟩
  refine EW amF (xs:=#[l[i].val]) (by simp) ?_;refine aR (ajp _ l[i]) ?_;rintro v ct ⟨rfl,a1⟩;refine ⟨_,rfl,kk (λaJ=>⟨i,rfl,?_,aj.new a1⟩) (λaJ=>?_)⟩
  ·have af:l.any bp.Full=true:=CX.2 ⟨l[i],qS aK,aJ⟩;rw [af];simp
  ·rw [cn (by omega) (by omega)];refine ⟨l.length - (i+1),by omega,i+1,_,rfl,by omega,rfl,aj.new a1,?_⟩;rw [iW,a',List.any_append,fp];simpa using aJ
 ·rw [apB];have:l.take i=l:=ny (by omega);rw [this] at fp;exact ⟨-1,rfl,by rw [fp];decide,aj⟩
end
theorem aCE (h:bW w a (kL l).flatten) (au:l.length<=1000000) :
  bK 201 [.slice a l.length c,.func (.func 202) #[] #[]] w λv w'=>v=.bool (l.any bp.Full)/\ai w w':=by
 refine bO Tryz.func201 ?_;rw [auj];refine aR (ahK h au) ?_;rintro v w1 ⟨z,rfl,aE,aj⟩;exact ⟨_,rfl,by rw [aE],aj⟩
theorem P7 {p:Nat->Bool} {n:Nat} (aD:i<n) (h:p i=false):(List.range n).all p=false:=by rw [Q5];exact ⟨i,jT.2 aD,by simp [h]⟩
theorem Aw {α:Type} {l:List α} {x d:α} (h:l[i]?=some x):l.getD i d=x:=by rw [gd,h];rfl
theorem Yk {v:pH} (h:ky M w r v) (n:Int):bK 166 [r.val,.int .i64 n] w λx w'=>x=.int .i64 (v.valid n)/\ai w w':=by
 refine bO Tryz.func166 ?_;rw [agN];rintro b1 w1 bA br;obtain ⟨aE,aj⟩:=b4 bA br;have aE:aF w1 b1 r.cells x2:=aE;clear br;have Pc:=h.small;have hlen:=h.len;have OW:=h.num;unfold pH.valid;refine aR (aiz _ n) ?_;rintro x aS ⟨rfl,rfl⟩;refine ⟨_,rfl,ht (λak=>?_) (λak=>?_)⟩
 ·rw [if_pos (by simpa using ak)];exact ⟨rfl,aj⟩
 have uQ:1<=n/\n<=5:=by simpa using ak
 rw [if_neg (λe=>e uQ)];refine ⟨_,aE.cell rfl,bL (λar=>?_) (λar=>⟨_,aE.cell rfl,bL (λmI=>?_) (λmI=>?_)⟩)⟩
 ·rw [if_pos (by omega)];exact ⟨rfl,aj⟩
 ·rw [if_pos (by omega)];exact ⟨rfl,aj⟩
 rw [if_neg (by omega)];refine ⟨_,_,_,aE.cell rfl,gX (λaN=>?_) (λaN=>⟨_,_,_,aE.cell rfl,?_⟩)⟩
 ·rw [if_pos (by omega)];exact ⟨rfl,aj⟩
 rw [if_neg (by omega)];refine e2 mix (λm env u=>∃ (i:Nat) (aT:aH),m=v.mem.length - i/\i<=v.mem.length/\env=K' n ⟨b1,0,none⟩ r.h1 r.h6 r.iJ r.h6 i aT/\ai aS u/\∀ k,k<i->rA n v.mem k=true) v.mem.length
  ⟨0,_,by omega,by omega,rfl,ay.refl _ _,λk J=>by omega⟩ ?_
 rintro m env u ⟨i,aT,rfl,aD,rfl,dN,b3⟩;rw [ayy];refine bL (λaM=>?_) (λaM=>?_)
 ·have aK:i<v.mem.length:=by omega
  have a':v.mem[i]?=some v.mem[i]:=cp aK;have hz:=Aw (d:=qD) a';have fp:rA n v.mem i=false->(List.range v.mem.length).all (rA n v.mem)=false:=P7 aK;refine hq (cells:=bp.cells) bp.len (by omega) ((h.rd.new aj).new dN) a' rfl hlen λb o ab _=>bp.bd v.mem[i] ⟨ab,?_⟩
  refine g0 (vs:=v.mem[i].cells) rfl (bp.single _) λaP cS cv bP a5=>?_
  rintro b2 oi;have bf:ai cS b2:=by rw [oi];exact eh _
  clear oi;have cx:=ai.an bf bP;have oN:=(dN.new a5).new bf;refine ⟨λy=>ai b2 y,ay.refl _ _,_,λy az=>(ai.an az cx).cell (i:=0) rfl,bL (λg'=>?_) (λg'=>⟨_,λy az=>(ai.an az cx).cell (i:=0) rfl,bL (λoO=>?_) (λoO=>bL (λiw=>?_) (λiw=>?_))⟩)⟩
  ·rw [if_pos (fp (by unfold rA;rw [hz];simp;omega))];exact ⟨rfl,aj.new oN⟩
  ·rw [if_pos (fp (by unfold rA;rw [hz];simp;omega))];exact ⟨rfl,aj.new oN⟩
  ·have yr:v.mem[i - 1]?=some v.mem[i - 1]:=cp (by omega);have BP:=Aw (d:=qD) yr;refine ⟨_,λy az=>(ai.an az cx).cell (i:=0) rfl,_,_,_,λy az=>(ai.an (oN.new az) aE).cell (i:=1) rfl,?_⟩;refine pw (cells:=bp.cells) bp.len (by omega) ((h.rd.new aj).new oN) yr (by rw [cn (by omega) (by omega)];omega) hlen λb' gk kd=>⟨_,λy az=>kd y az 0 _ rfl,bL (λjI=>?_) (λjI=>?_)⟩
   ·rw [if_pos (fp (by unfold rA;rw [hz,BP];simp;omega))];exact ⟨rfl,aj.new oN⟩
   ·rw [cn (by omega) (by omega)];refine ⟨v.mem.length - (i+1),by omega,i+1,_,rfl,by omega,rfl,oN,λk J=>?_⟩;rcases CV.1 J with J | rfl
    ·exact b3 k J
    ·unfold rA;rw [hz,BP];simp;omega
  ·rw [cn (by omega) (by omega)];refine ⟨v.mem.length - (i+1),by omega,i+1,_,rfl,by omega,rfl,oN,λk J=>?_⟩;rcases CV.1 J with J | rfl
   ·exact b3 k J
   ·unfold rA;rw [hz];simp;omega
 have k_:(List.range v.mem.length).all (rA n v.mem)=true:=by rw [lM];intro k J;exact b3 k (by have:=jT.1 J;omega)
 rw [if_neg (by rw [k_];simp)];rw [azg];have tD:=ai.an dN aE;refine ⟨_,_,_,tD.cell (i:=1) rfl,?_⟩;refine e2 mix (λm env z=>∃ (i:Nat) (aT:aH),m=v.mem.length - i/\i<=v.mem.length/\env=PO ⟨b1,0,none⟩ r.h1 r.h6 r.iJ r.h6 i aT/\ai aS z/\(v.mem.take i).all wS=true) v.mem.length
  ⟨0,_,by omega,by omega,rfl,dN,rfl⟩ ?_
 clear tD dN b3 aD aM;rintro m env u ⟨i,aT,rfl,aD,rfl,dN,b3⟩;rw [ayz];refine bL (λaM=>?_) (λaM=>?_)
 ·have aK:i<v.mem.length:=by omega
  have a':v.mem[i]?=some v.mem[i]:=cp aK;have fp:wS v.mem[i]=false->v.mem.all wS=false:=λe=>by rw [Q5];exact ⟨v.mem[i],qS aK,by simp [e]⟩
  refine hq (cells:=bp.cells) bp.len (by omega) ((h.rd.new aj).new dN) a' rfl hlen λb o ab _=>bp.bd v.mem[i] ⟨ab,?_⟩
  refine g0 (vs:=v.mem[i].cells) rfl (bp.single _) λaP cS cv bP a5=>?_
  have Uo:=dN.new a5;refine ⟨_,bP.cell (i:=1) rfl,bL (λg'=>?_) (λg'=>⟨_,bP.cell (i:=1) rfl,bL (λoO=>?_) (λoO=>?_)⟩)⟩
  ·rw [if_pos (fp (by unfold wS;simp;omega))];exact ⟨rfl,aj.new Uo⟩
  ·rw [if_pos (fp (by unfold wS;simp;omega))];exact ⟨rfl,aj.new Uo⟩
  ·rw [cn (by omega) (by omega)];refine ⟨v.mem.length - (i+1),by omega,i+1,_,rfl,by omega,rfl,Uo,?_⟩;rw [iW,a',List.all_append,b3];simp [wS];omega
 have Af:v.mem.take i=v.mem:=ny (by omega);rw [Af] at b3;rw [if_neg (by rw [b3];simp)];rw [azh];have tD:=ai.an dN aE;refine ⟨_,_,_,tD.cell (i:=1) rfl,?_⟩;rw [hlen];refine aR (aCE ((h.rd.new aj).new dN) Pc) ?_;rintro x b2 ⟨rfl,bf⟩;refine ⟨_,rfl,ht (λaJ=>?_) (λaJ=>?_)⟩
 ·rw [if_pos aJ];exact ⟨rfl,aj.new (dN.new bf)⟩
 ·rw [if_neg (by rw [aJ];simp)];exact ⟨rfl,aj.new (dN.new bf)⟩
end
section
theorem alR {u:av} {n cap:Nat} (aq:bu u hN 3 a n cap (kL L).flatten) (aj:n=L.length) (bA:n<=1000000) {K:Nat->ax->Nat->Nat->aV}
  (J:∀ b ap bU aY,b=u.heap.size->bu aY hN 3 ap (n+1) bU (kL (L++[m])).flatten->ay (a7 a) u aY->(∀ k,a7 ap k->a7 a k\/u.heap.size<=k)->K b ap (n+1) bU aY) :
  ∀ b1 aS,b1=u.heap.size->aS=u.alloc (.cells m.cells.toArray hN)->∃ (ap:ax) (h_ h9:Nat),∃ aY,(Builtin.append_ #[Sq,Sq] Sq #[(.slice a n cap),(.slice (some ⟨b1,0,none⟩) 1 1)]).run prog aS=.ok (.slice ap h_ h9) aY/\K b1 ap h_ h9 aY:=by
 obtain ⟨inf,aD,aE,cr,gm⟩:=j5 (T:=hN) (z:=.agg #[.int .i64 0,.int .i64 0,.bool false]) (n:=3) (m:=24) (by kernel_rfl);rw [<-cr] at aq;refine As Tryz.underlying33 aD aE (by rw [cr];rfl) (by omega) aq (by rw [cr];rfl) (bp.single m) (by omega) (by omega) ?_;intro b ap bU aY af al;rw [cr,<-aii] at al;exact J b ap bU aY af al
end
section
open IntKind
variable (w:av) (R:dW) {i k:Int} {A B:bh} {j:aB}
theorem ayU:bS prog f28 [I i] R w=(bb w #[I 0,bC] 35 λh l=>Calls prog 51 #[I i] l λe j=>e3.ex λb=>∃ a,e=.returned (.tuple #[b.val,I a])/\bb j #[I 0,bC] 35 λf k=>bJ k (ae f 0) 0 b.cells λg=>u' g (ae f 0) λr=>bJ g (ae h 0) 0 r.cells λd=>u' d (ae h 0) λc=>d=d/\R c.val d):=by kernel_rfl
def N3 (cJ:Int) (s2 dS:bh) (eV:Int) (j:aB):aB:=I cJ::ag j 0 1 (.pointer (some s2)::ag j 1 1 (.pointer (some dS)::I eV::ag j 2 21 []))
def aed (a b:bh) (j:aB):aB:=ag j 0 2 (.pointer (some a)::ag j 2 1 (.pointer (some b)::ag j 3 22 []))
theorem ayA:bS prog f51 [I i] R w=(bb w #[I 0,bC] 35 λc f=>cond (i<1) (bJ f (ae c 0) 0 [I 0,bC] λd=>u' d (ae c 0) λa=>d=d/\R (.tuple #[a.val,I 1]) d) (cond (i>5) (bJ f (ae c 0) 0 [I 0,bC] λe=>u' e (ae c 0) λb=>e=e/\R (.tuple #[b.val,I 1]) e) (bb f #[I 0,bC] 35 λg h=>bJ h (ae g 0) 0 [I 0,bC] λj=>dT prog (e0 f51 [1,1,1,0,1,0,0]) (N3 i (ae c 0) (ae g 0) 0 (undef::I 0::I i::U (i<1)::U false::I i::U (i>5)::U (i>5)::undef::.agg #[I 0,bC]::bQ 13 [])) (a8 0 (ba f51 [1,1,1,1] R)) j))):=by kernel_rfl
theorem avz (g:aB->aV):W prog (sb f51 [1,1,1,0,1,0,0]) (N3 i A B k j) (bk g (a8 0 (ba f51 [1,1,1,1] R))) w=(cond (k<i) (de w (cX B 1) λa b c=>bb w #[I k,I 1,U true] 116 λh n=>fk 33 (ad a b c) (ad (b7 h) 1 1) n λe d f l=>ev l (cX B 1) (ad e d f) λm=>g (N3 i A B (i64.wrap (k+1)) (ag j 0 10 [I k,I i,U (k<i),I k,I (i64.wrap (k+1)),cz B 1,ad a b c,I k,.agg #[I k,I 1,U true],ad (b7 h) 1 1,ad e d f,cz B 1,aW j 22])) m) (W prog (sb f51 [1,1,1,1]) (aed A B (I i::aW j 0::aW j 1::I k::ag j 2 8 (I k::I i::U (k<i)::ag j 13 10 []))) (c3 f51 R) w)):=by kernel_rfl
theorem awi:W prog (sb f51 [1,1,1,1]) (aed A B j) (c3 f51 R) w=(u' w B λr=>bJ w A 0 r.cells λa=>u' a A λc=>a=a/\R (.tuple #[c.val,I 0]) a):=by kernel_rfl
end
section
structure aow (v:pH):Prop where
 num:0<=v.number/\v.number<16
 hd:∀ m ∈ v.mem,1<=m.dJ
 ne:v.mem≠[]
 hH:v.mem.length<=5
abbrev aag (A:Nat):bB:=λk=>k<A
theorem aox {A:Nat} (aq:bu w hN 3 a L.length c (kL L).flatten) (au:L.length<=1000000) (aJ:∀ k,a7 a k->A<=k):ky (aag A) w ⟨n,a,L.length,c⟩ ⟨n,L⟩:=
 ⟨rfl,rfl,aq.le,aq.rd,mK aq.rd λk J h=>Nat.lt_irrefl _ (ks h (aJ k J)),au⟩
theorem ky.mono {M':bB} {v:pH} (h:ky M w r v) (hm:∀ k,k<w.heap.size->M' k->M k):ky M' w r v:=by
 refine ⟨h.num,h.len,h.cap,h.rd,?_,h.small⟩;rcases h.off with e | e
 ·exact .inl e
 ·rcases h.rd with bg | ⟨b,o,bg,ab⟩
  ·exact .inl bg
  ·by_cases he:(kL v.mem).flatten=[]
   ·exact .inl he
   ·rw [bg] at e ⊢;refine .inr λc1=>e (hm _ ?_ c1)
    cases au:(kL v.mem).flatten with
    |nil=>exact absurd au he
    |cons x xs=>exact Mx (ab 0 x (by rw [au];rfl))
theorem ky.aO {M N:bB} {w w':av} {r:e3} {v:pH} (h:ky M w r v) (J:ay N w w') (kE:∀ k,N k->M k):ky M w' r v:=
 ⟨h.num,h.len,h.cap,h.rd.aO J (h.off.imp id λe=>by cases bc:r.h1 with
  |none=>exact trivial
  |some a=>rw [bc] at e;exact λaj=>e (kE _ aj)),h.off,h.small⟩
def stM (n:Nat):List bp:=(List.range n).map λ(i:Nat)=>⟨(i:Int),1,true⟩
theorem CE (n:Nat):(stM n).length=n:=by simp [stM]
theorem ajq (n:Nat):stM (n+1)=stM n++[⟨(n:Int),1,true⟩]:=by simp [stM,rK]
theorem ajr {n:Nat} (h:m ∈ stM n):1<=m.dJ:=by simp only [stM,eQ] at h;obtain ⟨i,_,rfl⟩:=h;exact Int.le_refl _
theorem aij (w:av) (af:1<=n) (c9:n<=5):bK 51 [.int .i64 n] w λx w'=>∃ (a:ax) (c:Nat) (L:List bp),x=.tuple #[e3.val ⟨0,a,L.length,c⟩,.int .i64 0]/\bu w' hN 3 a L.length c (kL L).flatten/\ai w w'/\L=stM n.toNat/\(∀ k,a7 a k->w.heap.size<=k):=by
 refine bO Tryz.func51 ?_;rw [ayA];rintro b1 w1 bA br;obtain ⟨bm,a1⟩:=b4 bA br;have bm:aF w1 b1 (e3.cells ⟨0,none,0,0⟩) x2:=bm;clear br;refine bL (λar=>absurd ar (by omega)) (λ_=>bL (λar=>absurd ar (by omega)) (λ_=>?_))
 refine g0 (vs:=e3.cells ⟨0,none,0,0⟩) rfl (e3.single _) λaP aY cv cx bf=>?_
 have u1:=ai.an bf bm;have tr:=a1.new bf;have fI:=a1.size;have aEi:=bm.lt;refine e2 mix (λm env u=>∃ (i:Nat) (a:ax) (c:Nat) (L:List bp) (aT:aH),m=n.toNat - i/\i<=n.toNat/\env=N3 n ⟨b1,0,none⟩ ⟨aP,0,none⟩ i aT/\ai w u/\aF u b1 (e3.cells ⟨0,none,0,0⟩) x2/\aF u aP (e3.cells ⟨0,a,L.length,c⟩) x2/\bu u hN 3 a L.length c (kL L).flatten/\(∀ k,a7 a k->aP<k)/\L=stM i) n.toNat
  ⟨0,none,0,[],_,by omega,by omega,rfl,tr,u1,cx,bu.nil _ _ _,(λk J=>by obtain ⟨o,aq⟩:=J;cases aq),rfl⟩ ?_
 rintro m env u ⟨i,a,c,L,aT,rfl,aD,rfl,dN,gx,ki,cV,fH,DS⟩;have aDt:L.length=i:=by rw [DS,CE]
 rw [avz];refine bL (λaM=>?_) (λaM=>?_)
 ·refine ⟨_,_,_,ki.cell (i:=1) rfl,?_⟩;refine alR cV rfl (m:=⟨i,1,true⟩) (by omega) ?_;intro bT ap cap b2 ej yy ek fC;have atx:=ek.an gx λe=>by have:=fH b1 e;omega
  have aty:=ek.an ki λe=>by have:=fH aP e;omega
  have atB:=ki.lt;have ace:∀ k,a7 ap k->aP<k:=λk J=>by
   rcases fC k J with af | af
   ·exact fH k af
   ·omega
  refine FU (b:=aP) aty (o:=0+1) (by simp [e3.cells]) λc6 atz dv=>?_
  rw [cn (by omega) (by omega)];refine ⟨n.toNat - (i+1),by omega,i+1,ap,cap,L++[⟨i,1,true⟩],_,rfl,by omega,rfl,?_,dv.an atx (by omega),?_,?_,ace,by rw [DS,ajq]⟩
  ·have af:ai w b2:=Hr dN ek λk J=>by have:=fH k J;omega
   exact af.trans dv λk aK e=>by omega
  ·rw [gp];exact atz
  ·rw [gp];exact bu.aO dv yy λk J e=>by have:=ace k J;omega
 ·have gE:i=n.toNat:=by omega
  rw [awi];refine e3.bd ⟨0,a,L.length,c⟩ ⟨cD ki rfl,?_⟩;refine ⟨kA gx (by simp [e3.cells]) (e3.single _),λcS hu=>?_⟩;have J:ay (λk=>k=b1) u cS:=by rw [hu];exact nI _ _ _ _ _
  have aE:aF cS b1 (e3.cells ⟨0,a,L.length,c⟩) x2:=by rw [hu];exact gx.dO
  refine e3.bd ⟨0,a,L.length,c⟩ ⟨cD aE rfl,rfl,a,c,L,rfl,?_,?_,by rw [DS,gE],?_⟩
  ·exact bu.aO J cV λk dQ e=>by have:=fH k dQ;omega
  ·exact dN.trans J λk aK e=>by omega
  ·intro k dQ;have:=fH k dQ;omega
theorem RE (w:av) (af:1<=n) (c9:n<=5):bK 28 [.int .i64 n] w λx w'=>∃ r v,x=e3.val r/\ky (aag w.heap.size) w' r v/\ai w w'/\aow v/\v=⟨0,stM n.toNat⟩:=by
 refine bO Tryz.func28 ?_;rw [ayU];rintro b1 w1 bA br;obtain ⟨bm,a1⟩:=b4 bA br;have bm:aF w1 b1 (e3.cells ⟨0,none,0,0⟩) x2:=bm;clear br;refine aR (aij w1 af c9) ?_;rintro v aS ⟨a,c,L,rfl,cV,a5,DS,fH⟩;have DR:(L.length:Int)=n:=by rw [DS,CE];omega
 have fb:∀ m ∈ L,1<=m.dJ:=λm hm=>ajr (DS▸hm)
 refine e3.bd ⟨0,a,L.length,c⟩ ⟨_,rfl,?_⟩;refine g0 (vs:=e3.cells ⟨0,a,L.length,c⟩) rfl (e3.single _) λaP aY cv cx bf=>?_
 refine e3.bd ⟨0,a,L.length,c⟩ ⟨cD cx rfl,?_⟩;have u1:=ai.an (a5.new bf) bm;have KH:=bu.new bf cV;refine ⟨kA u1 (by simp [e3.cells]) (e3.single _),λcS hu=>?_⟩;have J:ay (λk=>k=b1) aY cS:=by rw [hu];exact nI _ _ _ _ _
 have aE:aF cS b1 (e3.cells ⟨0,a,L.length,c⟩) x2:=by rw [hu];exact u1.dO
 have cj:∀ k,a7 a k->k≠b1:=λk dQ e=>by
  subst e;obtain ⟨o,aq⟩:=dQ;rcases KH.2 with ⟨h,_⟩ | ⟨g,cur,he,a',_⟩
  ·rw [h] at aq;cases aq
  ·rw [he] at aq;simp at aq;exact absurd (a'.uniq (aq.1▸u1)).2 (by decide)
 refine e3.bd ⟨0,a,L.length,c⟩ ⟨cD aE rfl,rfl,_,⟨0,L⟩,rfl,aox (bu.aO J KH cj) (by omega) (λk dQ=>by have:=fH k dQ;have:=a1.size;omega),?_,⟨⟨by simp,by simp⟩,fb,λe=>?_,?_⟩,by rw [DS]⟩
 ·exact (a1.new (a5.new bf)).trans J λk aK e=>by omega
 ·have e:L=[]:=e;rw [e] at DR;simp at DR <;> omega
 ·show L.length<=5;omega
end
section
open IntKind
variable (w:av) (R:dW) {X:bx} {a:Nat} {i k:Int} {j:aB}
theorem agO (a b c d f g:Int) (h:ax) (i k:Nat) (l m:Int) (w:av) (R:dW):bS prog f130 [.agg #[I a,I b,I c,I d,ah f,ah g,ad h i k,ah l,I m]] R w=(bb w #[I a,I b,I c,I d,ah f,ah g,ad h i k,ah l,I m] 158 λb1 w1=>cQ w1 (ae b1 0) λn=>cond (n == 1) (cQ w1 (ae b1 3) λk6=>R (I k6) w1) (cond (n == 2) (de w1 (ae b1 6) λo p q=>R (I (p:Nat)) w1) (cond (n == 3) (cond (n == 3) (R (I 1) w1) (R (I 0) w1)) (cond (n == 4) (R (I 1) w1) (R (I 0) w1))))):=by kernel_rfl
theorem aCF (a b c d f g:Int) (h:ax) (i k:Nat) (l m:Int) (w:av) (R:dW):bS prog f138 [.agg #[I a,I b,I c,I d,ah f,ah g,ad h i k,ah l,I m]] R w=(bb w #[I a,I b,I c,I d,ah f,ah g,ad h i k,ah l,I m] 158 λb1 w1=>R (.func (.func 186) #[] #[bM b1]) w1):=by kernel_rfl
def PC (cJ:bx) (dm dS:Int) (j:aB):aB:=cJ::ag j 0 2 (I dm::I dS::ag j 2 24 [])
theorem aA7:bS prog f186 [X,bM a] R w=(dP w λq j=>eG j (ae a 2) λp=>wM j (ae a 0) λe b c o d f g h i k l=>dI 130 #[.agg #[I e,I b,I c,I o,ah d,ah f,ad g h i,ah k,I l]] q λm n=>j n/\dT prog (e0 f186 [1,0,0]) (PC X p m (jp (ae a 0)::bQ 2 (jp (ae a 2)::I p::.agg #[I e,I b,I c,I o,ah d,ah f,ad g h i,ah k,I l]::I m::bQ 19 []))) (a8 0 (c3 f186 R)) n):=by kernel_rfl
theorem aw3 (c:aB->aV):W prog (sb f186 [1,0,0]) (PC X i k j) (bk c (a8 0 (c3 f186 R))) w=(cond (k>0) (px prog X #[.agg #[I i,I (if ((i64.wrap (8 - (Int.tmod i 8))):Int)<k then ((i64.wrap (8 - (Int.tmod i 8))):Int) else k)]] w λe b=>∃ a,e=.returned (U a)/\cond (!a) (R (.tuple #[]) b) (c (PC X (i64.wrap (i+(if ((i64.wrap (8 - (Int.tmod i 8))):Int)<k then ((i64.wrap (8 - (Int.tmod i 8))):Int) else k))) (i64.wrap (k - (if ((i64.wrap (8 - (Int.tmod i 8))):Int)<k then ((i64.wrap (8 - (Int.tmod i 8))):Int) else k))) (aW j 0::aW j 1::I (if ((i64.wrap (8 - (Int.tmod i 8))):Int)<k then ((i64.wrap (8 - (Int.tmod i 8))):Int) else k)::ag j 3 4 [I k,U (k>0),I k,I i,I (Int.tmod i 8),I (i64.wrap (8 - (Int.tmod i 8))),I (if ((i64.wrap (8 - (Int.tmod i 8))):Int)<k then ((i64.wrap (8 - (Int.tmod i 8))):Int) else k),X,I i,I (if ((i64.wrap (8 - (Int.tmod i 8))):Int)<k then ((i64.wrap (8 - (Int.tmod i 8))):Int) else k),.agg #[I i,I (if ((i64.wrap (8 - (Int.tmod i 8))):Int)<k then ((i64.wrap (8 - (Int.tmod i 8))):Int) else k)],U a,U (!a),I i,I (if ((i64.wrap (8 - (Int.tmod i 8))):Int)<k then ((i64.wrap (8 - (Int.tmod i 8))):Int) else k),I (i64.wrap (i+(if ((i64.wrap (8 - (Int.tmod i 8))):Int)<k then ((i64.wrap (8 - (Int.tmod i 8))):Int) else k))),I k,I (if ((i64.wrap (8 - (Int.tmod i 8))):Int)<k then ((i64.wrap (8 - (Int.tmod i 8))):Int) else k),I (i64.wrap (k - (if ((i64.wrap (8 - (Int.tmod i 8))):Int)<k then ((i64.wrap (8 - (Int.tmod i 8))):Int) else k)))])) b)) (R (.tuple #[]) w)):=by kernel_rfl
end
section
theorem py (h:df w ch 0 v.cells)
  (J:K v.Kind v.Node v.cY v.N v.Old v.ai v.Words v.ey v.eg v.Key v.dJ) :
  ∃ (Kind:Int) (Node:Int) (cY:Int) (N:Int) (Old:Int) (ai:Int) (Words:ax) (ey:Nat) (eg:Nat) (Key:Int) (dJ:Int),
   df w ch 0 [.int .i64 Kind,.int .i64 Node,.int .i64 cY,.int .i64 N,.int .u64 Old,.int .u64 ai,.slice Words ey eg,.int .u64 Key,.int .i64 dJ]/\K Kind Node cY N Old ai Words ey eg Key dJ:=
 ⟨_,_,_,_,_,_,_,_,_,_,_,h,J⟩
theorem wU {S:aV} (h:∀ u,S u->df u ch 0 v.cells)
  (J:K v.Kind v.Node v.cY v.N v.Old v.ai v.Words v.ey v.eg v.Key v.dJ) :
  ∃ (Kind:Int) (Node:Int) (cY:Int) (N:Int) (Old:Int) (ai:Int) (Words:ax) (ey:Nat) (eg:Nat) (Key:Int) (dJ:Int),
   (∀ u,S u->df u ch 0 [.int .i64 Kind,.int .i64 Node,.int .i64 cY,.int .i64 N,.int .u64 Old,.int .u64 ai,.slice Words ey eg,.int .u64 Key,.int .i64 dJ])/\K Kind Node cY N Old ai Words ey eg Key dJ:=
 ⟨_,_,_,_,_,_,_,_,_,_,_,h,J⟩
abbrev d8:TypeId:=158
theorem l4 {b:Nat} (h:aF w b v.cells d8):df w ⟨b,0,none⟩ 0 v.cells:=cD h (by simp [a0.cells])
theorem AM (w:av) (v:a0):aF (w.alloc (.cells v.cells.toArray d8)) w.heap.size v.cells d8:=Cj _ _ _
def a0.count (v:a0):Int:=if v.Kind=1 then v.N else if v.Kind=2 then v.ey else if v.Kind=3\/v.Kind=4 then 1 else 0
theorem My (w:av) (v:a0):bK 130 [v.val] w λx w'=>x=.int .i64 v.count/\ai w w':=by
 refine bO Tryz.func130 ?_;refine Eq.mpr (agO v.Kind v.Node v.cY v.N v.Old v.ai v.Words v.ey v.eg v.Key v.dJ w _) ?_;rintro b1 w1 rfl rfl;have ak:=AM w v;have aj:=mE w (.cells v.cells.toArray d8);refine ⟨_,ak.cell rfl,gX (λaf=>⟨_,ak.cell rfl,?_,aj⟩) (λaf=>gX (λal=>⟨_,_,_,ak.cell rfl,?_,aj⟩) (λal=>gX (λaL=>gX (λ_=>⟨?_,aj⟩) (λh=>absurd aL h)) (λaL=>gX (λca=>⟨?_,aj⟩) (λca=>⟨?_,aj⟩))))⟩
 ·simp [a0.count,af]
 ·simp [a0.count,al]
 ·simp [a0.count,aL]
 ·simp [a0.count,ca]
 ·simp [a0.count,af,al,aL,ca]
end
section
open Go.RowKit
def aa7 (x:Int×Int):Array bx:=#[.agg #[.int .i64 x.1,.int .i64 x.2]]
def mW:Nat->Int->Int->List (Int×Int)
 | 0,_,_=>[]
 |f+1,at_,left=>if left<=0 then [] else (at_,if 8 - at_ % 8<left then 8 - at_ % 8 else left)::
   mW f (at_+(if 8 - at_ % 8<left then 8 - at_ % 8 else left)) (left - (if 8 - at_ % 8<left then 8 - at_ % 8 else left))
def a0.pieces (v:a0):List (Int×Int):=mW v.count.toNat v.cY v.count
theorem agW {w':av} (h:Go.b8.ai w w'):w.grownBy w' none:=⟨h.os,h.tape,h.output,h.size,λk J _=>h.block k J id⟩
theorem ahV {m:Nat} {l:Nat} {args:Array bx} {W:av} {R:Ending->aV} (h:YieldAt Fence.wide m P l args W R) (k:Nat):YieldAt Fence.wide k P l args W R:=by obtain ⟨fn,tmps,assign,body,af,al⟩:=h;exact ⟨fn,tmps,assign,body,af,al.1,λc cs _=>al.2 c cs (room_wide _)⟩
theorem ahW (n l iG Ho:Nat) (v:a0) (bG s3:List (Int×Int)->aV) (DU:0<=v.cY) (zT:v.cY<=1000000) (q6:1<=v.count) (eC:v.count<=1000000) (W:av)
  (DQ:AbidesFrom W.heap.size bG) (DT:∀ pre x W,bG pre W->pre.length<v.pieces.length->YieldAt Fence.wide (n - 1) prog l (aa7 x) W λe W'=>
   (e=.returned (.bool true)/\bG (pre++[x]) W'/\Below Ho W W')\/(e=.returned (.bool false)/\s3 (pre++[x]) W'))
  (Oe:∀ u,Below (iG+1) W u->df u ⟨iG,0,none⟩ 0 v.cells) (ak:iG+1<=W.heap.size) (aN:bG [] W) :
  CallsIn Fence.wide n prog 186 #[.func (.yield l) #[] #[],.pointer (some ⟨iG,0,none⟩)] W λe W'=>(∃ v,e=.returned v)/\
   ((∃ ys,ys=v.pieces/\bG ys W')\/(∃ pre,pre <+: v.pieces/\s3 pre W')):=by
 refine callsIn_wide.2 (Calls.mono (R:=λe w'=>∃ x,e=.returned x/\((∃ ys,ys=v.pieces/\bG ys w')\/(∃ pre,pre <+: v.pieces/\s3 pre w'))) ?_ λe w' ⟨x,ao,aA⟩=>⟨⟨x,ao⟩,aA⟩);refine bO Tryz.func186 (args:=[.func (.yield l) #[] #[],.pointer (some ⟨iG,0,none⟩)]) (R:=λ_ w'=>(∃ ys,ys=v.pieces/\bG ys w')\/(∃ pre,pre <+: v.pieces/\s3 pre w')) ?_;rw [aA7];intro w1 br;have a1:Go.b8.ai W w1:=by rw [br];exact eh _
 clear br;have mg:∀ u,Go.b8.ai w1 u->Below (iG+1) W u:=λu hu=>(a1.new hu).below (by omega) λ_ _ h=>h
 refine ⟨λu=>Go.b8.ai w1 u,ay.refl _ _,v.cY,λu hu=>?_,?_⟩
 ·have:=Oe u (mg u hu);exact this.2.2.1
 refine wU (v:=v) (λu hu=>Oe u (mg u hu)) ?_;refine aR (My _ v) ?_;rintro r aS ⟨rfl,a5⟩;refine ⟨_,rfl,a5,?_⟩;have apZ:bG [] aS:=DQ _ _ _ none aN (agW (a1.new a5)) (λ_ h=>by cases h);refine e2 mix (λm env u=>∃ (f:Nat) (at_ left:Int) (aT:aH) (pre:List (Int×Int)),m=f/\left<=f/\0<=at_/\0<=left/\at_+left<=2000000/\env=PC (.func (.yield l) #[] #[]) at_ left aT/\v.pieces=pre++mW f at_ left/\bG pre u) v.count.toNat
  ⟨v.count.toNat,v.cY,v.count,_,[],rfl,by omega,DU,by omega,by omega,rfl,rfl,apZ⟩ ?_
 rintro f env u ⟨_,at_,left,aT,pre,rfl,aDZ,ez,hle,aEq,rfl,sn,Jz⟩;rw [aw3];refine bL (λar=>?_) (λar=>?_)
 ·obtain ⟨oI,rfl⟩:∃ oI,f=oI+1:=⟨f - 1,by omega⟩;have T':Int.tmod at_ 8=at_ % 8:=Q4 ez
  rw [T',cn (x:=8 - at_ % 8) (by omega) (by omega)];generalize J:(if 8 - at_ % 8<left then 8 - at_ % 8 else left)=k;have hk:1<=k/\k<=left/\k<=8:=by rw [<-J];split<;>omega
  have aqO:mW (oI+1) at_ left=(at_,k)::mW oI (at_+k) (left - k):=by rw [mW,if_neg (by omega),J]
  rw [aqO] at sn;have az:=ahV (DT pre (at_,k) u Jz (by rw [sn];simp)) 0;refine Exists.imp (λfn=>Exists.imp λtmps=>Exists.imp λassign=>Exists.imp λbody=>And.imp id λh=>RoundIn.mono h ?_) az;rintro e aY (⟨rfl,S6,_⟩ | ⟨rfl,S7⟩)
  ·refine ⟨_,rfl,eX rfl ?_⟩;rw [cn (by omega) (by omega),cn (by omega) (by omega)];refine ⟨oI,by omega,oI,at_+k,left - k,_,pre++[(at_,k)],rfl,by omega,by omega,by omega,by omega,rfl,by rw [sn];simp,S6⟩
  ·exact ⟨_,rfl,g8 rfl (.inr ⟨_,⟨mW oI (at_+k) (left - k),by rw [sn];simp⟩,S7⟩)⟩
 ·refine .inl ⟨pre,?_,Jz⟩;have:left=0:=by omega
  subst this;rw [sn];cases f<;>simp [mW]
end
section
open Go.RowKit
theorem VE:∀ (f:Nat) (at_ left:Int),0<=at_->∀ p ∈ mW f at_ left,at_<=p.1/\1<=p.2/\p.2<=8/\p.1+p.2<=at_+left
 | 0,_,_,_,p,ar=>by simp [mW] at ar
 |f+1,at_,left,aN,p,ar=>by
  unfold mW at ar;split at ar
  ·simp at ar
  ·rename_i au;rcases iF.1 ar with rfl | ar
   ·simp only;split<;>omega
   ·have:=VE f _ _ (by split<;>omega) p ar;split at this<;>omega
theorem agP (f:Nat) (at_ left:Int) (h:1<=left) (aJ:1<=f):mW f at_ left≠[]:=by
 cases f with
 |zero=>omega
 |succ f=>unfold mW;rw [if_neg (by omega)];simp
theorem P0:∀ (f:Nat) (at_ left:Int),(mW f at_ left).length<=f
 | 0,_,_=>by simp [mW]
 |f+1,at_,left=>by
  unfold mW;split
  ·simp
  ·simp only [l8];have:=P0 f (at_+(if 8 - at_ % 8<left then 8 - at_ % 8 else left)) (left - (if 8 - at_ % 8<left then 8 - at_ % 8 else left));omega
def y_ (dA:List (Int×Int)):List aH:=dA.map λp=>[.int .i64 p.1,.int .i64 p.2]
theorem aiA (dA:List (Int×Int)):∀ r ∈ y_ dA,r.length=2:=by intro r aA;simp only [y_,eQ] at aA;obtain ⟨v,_,rfl⟩:=aA;rfl
theorem aiB {dA:List (Int×Int)} {p:Int×Int} (h:dA[i]?=some p):(y_ dA)[i]?=some [.int .i64 p.1,.int .i64 p.2]:=by simp [y_,h]
abbrev Dk:TypeId:=185
end
section
open Go.RowKit
theorem R9 (hm:P.follows .mixedOrders=true) {a b:Code} {N:aH->aV} (h:W P a env (bk N (λ_ _ _=>False)) w) (kE:∀ env w,N env w->b.wp P Q (act env) w):(Code.seq a b).wp P Q (act env) w:=by
 refine wp_seq (wp_mono (CD hm a env _ w h) λe cB w' lX=>?_);obtain ⟨he,m1,bc,aM⟩:=EJ lX;subst bc;clear lX;cases e with
 |normal=>exact kE m1 w' aM
 |panic c=>exact absurd rfl (he.1 c)
 |outgrown=>exact absurd rfl he.2
 | _=>exact aM.elim
theorem ajs (w:av) (v:a0):bK 138 [v.val] w λr w'=>r=.func (.func 186) #[] #[.pointer (some ⟨w.heap.size,0,none⟩)]/\aF w' w.heap.size v.cells d8/\Go.b8.ai w w'/\w'.heap.size=w.heap.size+1:=by refine bO Tryz.func138 ?_;refine Eq.mpr (aCF v.Kind v.Node v.cY v.N v.Old v.ai v.Words v.ey v.eg v.Key v.dJ w _) ?_;rintro b1 w1 bA br;obtain ⟨aE,aj⟩:=b4 bA br;refine ⟨by rw [bA],bA▸aE,aj,by rw [br];simp⟩
theorem aoo (v:a0) (w:av) (N:aH->aV):W prog (sub (b6 f98) [0]) [v.val,undef,undef,undef,undef,undef,undef,undef,undef,undef,undef,undef,undef] (bk N (λ_ _ _=>False)) w =
  (∀ b1 w1,b1=w.heap.size->w1=w.alloc (.cells v.cells.toArray 158)->N [v.val,.pointer (some ⟨b1,0,none⟩),.slice none 0 0,undef,undef,undef,undef,undef,undef,undef,undef,undef,undef] w1):=by kernel_rfl
theorem aop (v x:bx) (b:Nat) (w:av) (N:aH->aV):W prog (sub (b6 f98) [1,0]) [v,.pointer (some ⟨b,0,none⟩),x,undef,undef,undef,undef,undef,undef,undef,undef,undef,undef] (bk N (λ_ _ _=>False)) w =
  (∀ b1 w1,b1=w.heap.size->w1=w.alloc (.cells #[.slice none 0 0] 181)->N [v,.pointer (some ⟨b,0,none⟩),x,.pointer (some ⟨b1,0,none⟩),undef,undef,undef,undef,undef,undef,undef,undef,undef] w1):=by kernel_rfl
def Rq (o:Oper):Bool:=match o.op with | .defer _=>false | _=>true
def plain:Code->Bool
 | .region _ ops false=>ops.toList.all Rq
 | _=>false
theorem ahX {o:Oper} {a:Act} {next next':Act->aV} (r n:Nat) (aj:∀ a w,next a w->next' a w):∀ {x:Result Next},o.uponIn Fence.wide 0 P a next Q x->o.uponIn (Fence.wide.inRound r) n P a next' Q x
 | .ok (.value v) w',h=>aj _ _ h
 | .ok .skip w',h=>aj _ _ h
 | .ok (.defer d) w',h=>aj _ _ h
 | .ok (.enter f args) w',h=>by
  refine ⟨λab=>by simp [Fence.wide] at ab,trivial,λcs _=>?_⟩;obtain ⟨e,aS,kD,aA,aX,ao⟩:=h.2.2 cs (room_wide _);refine ⟨e,aS,kD,?_,aX,ao⟩;cases e with
  |returned v=>exact aj _ _ aA
  |panicked c=>exact aA
  |outgrown=>exact aA
 | .ok (.row row args) w',h=>by refine ⟨λab=>by simp [Fence.wide] at ab,λc cs _=>?_⟩;obtain ⟨v,aS,aA,aX⟩:=h.2 c cs (room_wide _);exact ⟨v,aS,aj _ _ aA,aX⟩
 | .ok (.round l f tmps assign body) w',h=>by
  refine ⟨λab=>by simp [Fence.wide] at ab,trivial,λc cs _=>?_⟩;obtain ⟨e,aS,aA,aX⟩:=h.2.2 c cs (room_wide _);refine ⟨e,aS,?_,aX⟩;cases e with
  |returned v=>exact aj _ _ aA
  |panicked c=>exact aA
  |outgrown=>exact aA
 | .halt (.panic v) w',h=>h
 | .halt (.stuck s) w',h=>by cases h
theorem W6 {P:Program} {ops:Array Oper} {Q:Exit->Act->aV} (r n:Nat):∀ (l:List Oper) (a:Act) (w:av),(∀ o ∈ l,Rq o=true)->wpListIn Fence.wide 0 P ops Q l a w->wpListIn (Fence.wide.inRound r) n P ops Q l a w
 | [],_,_,_,h=>h
 |o::l,a,w,aC,h=>by
  have c5:=λa w=>W6 (P:=P) (ops:=ops) (Q:=Q) r n l a w λo aq=>aC o (jz _ aq)
  unfold wpListIn at h ⊢;split at h
  ·rename_i hw;rw [if_pos hw];refine ⟨λ_ _=>trivial,?_⟩;have al:=h.2;rw [show Fence.wide.round=none from rfl,Oper.semAt_none] at al;rw [show (Fence.wide.inRound r).round=some r from rfl,Oper.semAt_some _ _ _ (λc ab=>by have:=aC o iA;simp [Rq,ab] at this)];exact ahX r n c5 al
  ·rename_i hw;rw [if_neg hw];exact ⟨λ_ _=>trivial,c5 _ _ h.2⟩
theorem YZ {c:Code} (ar:plain c=true) {Q:Exit->aH->aV} (r n:Nat) (h:W P c env Q w):c.wpIn (Fence.wide.inRound r) n P (C8 Q) (act env) w:=by
 cases c with
 |region id ops d=>
  cases d with
  |true=>simp [plain] at ar
  |false=>unfold W at h;refine wpIn_region_list (W6 r n _ _ _ (λo aq=>?_) (Au (all:=ops.toList) ops.toList env w (Q .normal) (λenv w J=>pL J ⟨λ_=>by simp,by simp⟩) h));simp only [plain,lM] at ar;exact ar o aq
 | _=>simp [plain] at ar
theorem aoq (v x:bx) (b aP:Nat) (w:av) (N:aH->aV):W prog (sub (b6 f98) [1,1,0,0]) [v,.pointer (some ⟨b,0,none⟩),x,.pointer (some ⟨aP,0,none⟩),undef,undef,undef,undef,undef,undef,undef,undef,undef] (bk N (λ_ _ _=>False)) w =
  (∃ (Kind:Int) (Node:Int) (cY:Int) (k6:Int) (Old:Int) (ai:Int) (Words:ax) (Dp:Nat) (Dn:Nat) (Key:Int) (dJ:Int),df w ⟨b,0,none⟩ 0 [(.int .i64 Kind),(.int .i64 Node),(.int .i64 cY),(.int .i64 k6),(.int .u64 Old),(.int .u64 ai),(.slice Words Dp Dn),(.int .u64 Key),(.int .i64 dJ)]/\
   Calls prog 138 #[(.agg #[(.int .i64 Kind),(.int .i64 Node),(.int .i64 cY),(.int .i64 k6),(.int .u64 Old),(.int .u64 ai),(.slice Words Dp Dn),(.int .u64 Key),(.int .i64 dJ)])] w λe aY=>∃ r,e=.returned r/\
    N [v,.pointer (some ⟨b,0,none⟩),x,.pointer (some ⟨aP,0,none⟩),undef,(.agg #[(.int .i64 Kind),(.int .i64 Node),(.int .i64 cY),(.int .i64 k6),(.int .u64 Old),(.int .u64 ai),(.slice Words Dp Dn),(.int .u64 Key),(.int .i64 dJ)]),r,undef,undef,undef,undef,undef,undef] aY):=by kernel_rfl
theorem aoz (v x y z r:bx) (aP:Nat) (p:Int×Int) (w:av) (N:aH->aV):W prog (sub (b6 f98) [1,1,0,1,0,0]) [v,y,x,.pointer (some ⟨aP,0,none⟩),undef,z,r,.agg #[.int .i64 p.1,.int .i64 p.2],undef,undef,undef,undef,undef] (bk N (λ_ _ _=>False)) w =
  (∀ b1 w1,b1=w.heap.size->w1=w.alloc (.cells #[.int .i64 0,.int .i64 0] Dk)->ha w1 ⟨b1,0,none⟩ 0 [.int .i64 p.1,.int .i64 p.2]/\∀ aS,aS=dO w1 ⟨b1,0,none⟩ 0 [.int .i64 p.1,.int .i64 p.2]->
   N [v,y,x,.pointer (some ⟨aP,0,none⟩),.pointer (some ⟨b1,0,none⟩),z,r,.agg #[.int .i64 p.1,.int .i64 p.2],undef,undef,undef,undef,undef] aS):=by kernel_rfl
theorem aoA (v x y z r t:bx) (aP ec:Nat) (w:av) (N:aH->aV):W prog (sub (b6 f98) [1,1,0,1,0,1,0]) [v,y,x,.pointer (some ⟨aP,0,none⟩),.pointer (some ⟨ec,0,none⟩),z,r,t,undef,undef,undef,undef,undef] (bk N (λ_ _ _=>False)) w =
  (∃ (a:ax) (n c:Nat),w.cell? ⟨aP,0,none⟩=some (.slice a n c)/\∃ (eK fj:Int),df w ⟨ec,0,none⟩ 0 [.int .i64 eK,.int .i64 fj]/\∀ b1 w1,b1=w.heap.size->w1=w.alloc (.cells #[.int .i64 eK,.int .i64 fj] Dk)->
   ∃ (ap:ax) (h_ h9:Nat),∃ aS,(Builtin.append_ #[181,181] 181 #[(.slice a n c),(.slice (some ⟨b1,0,none⟩) 1 1)]).run prog w1=.ok (.slice ap h_ h9) aS/\
    (∃ u,aS.cell? ⟨aP,0,none⟩=some u)/\aS.frozen? ⟨aP,0,none⟩=false/\∀ aY,aY=aS.setCell ⟨aP,0,none⟩ (.slice ap h_ h9)->
    N [v,y,x,.pointer (some ⟨aP,0,none⟩),.pointer (some ⟨ec,0,none⟩),z,r,t,.slice a n c,.agg #[.int .i64 eK,.int .i64 fj],.slice (some ⟨b1,0,none⟩) 1 1,.slice ap h_ h9,undef] aY):=by kernel_rfl
end
end Go.Proofs.YtmkljjbioomepaaGreat
