import Derived.Test.YtmkljjbioomepaaGreatg10
set_option linter.all false
namespace Go.Proofs.YtmkljjbioomepaaGreat
open Go.Proofs.Tryz Go.bJ
variable {A B L:a4}{K:(a4)->Prop}{c aM i j k n q:Nat}{u bB w:an}
section
def p7 (v:bc):Prop:=1<=v.v.count
theorem p7.pieces {v:bc}(h:p7 v):0<v.v.pieces.length:=by
 refine wz.2 (JW _ _ _ h ?_)
 grind[p7]
structure gu (p:cH):Prop where
 nL:∀ v ∈ p.a1,p7 v
 idle:p.a1=[]->p.b4=0
 zero:p.b4=0->p.words=[]
 ih:p.ih
theorem gu.done {p:cH}(h:gu p):gu p.done:=by
 refine⟨λv al=>h.nL v (uw al),λ_=>rfl,λ_=>rfl,?_⟩
 intro x xs a;have hm:x ∈ p.a1.tail:=by rw[show p.a1.tail=x::xs from a];grind
 exact(h.nL x (uw hm)).pieces
theorem gu.step {p:cH}(h:gu p)(n:aD):gu (p.step n).1:=by
 unfold cH.step;split
 ·exact h
 ·rename_i x xs b;dsimp only;split
  ·exact h.done
  ·split
   ·rename_i a;refine⟨h.nL,λe=>?_,λe=>by grind,?_⟩
    ·grind
    ·intro y ys c
     grind
   ·exact h.done
theorem gu.post {p:cH}(h:gu p){v:bc}(al:p7 v):gu {p with a1:=p.a1++[v]}:=by
 refine⟨λx a=>?_,λe=>by simp at e,h.zero,?_⟩
 ·rcases i'.1 a with c | c
  ·exact h.nL x c
  grind
 ·intro x xs a;cases b:p.a1 with
  |nil=>simp[b]at a;rw[<-a.1];show p.b4<_;rw[h.idle b];exact al.pieces
  |cons y ys=>simp[b]at a;rw[<-a.1];exact h.ih y ys b
theorem DD (p:cH)(n:aD):(p.step n).1.aL=p.aL/\(p.step n).1.inc=p.inc/\(p.step n).1.node=p.node:=by
 unfold cH.step;split
 ·grind
 ·dsimp only;split
  ·exact⟨rfl,rfl,rfl⟩
  ·split<;>exact⟨rfl,rfl,rfl⟩
theorem Mi (p:cH)(n:aD):((p.step n).2.2=none/\(p.step n).1.a1=p.a1)\/(∃ d,(p.step n).2.2=some d/\(p.step n).1.a1=p.a1.tail/\p.a1≠[]):=by
 unfold cH.step;split
 ·grind
 ·rename_i a;dsimp only;split
  ·exact .inr ⟨_,rfl,rfl,by grind⟩
  ·split
   ·grind
   ·exact .inr ⟨_,rfl,rfl,by grind⟩
theorem Do {p:cH}{x:bc}{n:aD}(h:p.refusal x n=0):n.down=false/\x.v.valid 5 (n.words.length / 8:Nat)=0:=by
 grind[cH.refusal]
theorem NW {x:bc}{n:aD}(al:x.v.valid 5 (n.words.length / 8:Nat)=0){pc:Int×Int}(c:pc ∈ x.v.pieces):(exec x pc n).1.words.length=n.words.length:=by
 obtain⟨d,a⟩:=yX al;obtain⟨i1,i2,i3,i4,i5,i6,i7,i8,i9,i10,i11⟩:=qg a;unfold aG.hI at i10;have b:=yI _ _ _ (by omega) pc c;unfold exec;split
 ·rfl
 ·split
  ·grind[aD.write,List.length_append,List.length_take,List.length_drop]
  grind[aD.dr,aD.add]
theorem EX {p:cH}(h:gu p)(n:aD):(p.step n).2.1.words.length=n.words.length:=by
 unfold cH.step;split
 ·rfl
 ·rename_i x xs b;dsimp only;split
  ·rfl
  ·rename_i c;have al:=(Do (p:=p) (x:=x) (n:=n) (by omega)).2;have a:=h.ih x xs b
   grind[List.getElem?_eq_getElem,List.getElem_mem,NW]
theorem wD:∀ {ls:List ct} {j:Nat} {l l':ct},ls[j]?=some l->gQ (ls.set j l')+l.pair.a1.length=gQ ls+l'.pair.a1.length
 | [],j,l,l',h=>by grind
 |a::ls,0,l,l',h=>by grind[gQ]
 |a::ls,j+1,l,l',h=>by have:=wD (ls:=ls) (j:=j) (l:=l) (l':=l') (by simpa using h);simp[gQ]at this ⊢;omega
theorem v_:∀ {ls:List ct},gQ ls=0->∀ l ∈ ls,l.pair.a1=[]
 | [],_,l,h=>by grind
 |a::ls,b,l,h=>by
  simp[gQ]at b;rcases f0.1 h with rfl | h
  ·exact b.1
  ·exact v_ (by simp[gQ];exact b.2) l h
structure Good (F:ay):Prop where
 ok:nU F
 cC:∀ C ∈ F.aF,∀ l ∈ C.az,gu l.pair
 or:∀ p ∈ F.bZ,gu p
theorem ay.o' {F:ay}{c:Int}{C:a9}(h:F.cC c=some C):0<=c/\F.aF[c.toNat]?=some C:=by
 grind[ay.cC]
theorem Good.eo {F:ay}(h:Good F){C C':a9}(e:F.aF[i]?=some C)(c:uH F.nodes.length i C')(d:∀ l ∈ C'.az,gu l.pair):Good {F with aF:=F.aF.set i C'}:=by
 refine⟨⟨h.ok.lines,h.ok.nodes,h.ok.words,by simpa using h.ok.aF,λk D a=>?_,h.ok.ew⟩,λD a=>?_,h.or⟩
 ·simp only[kW]at a;split at a
  ·grind
  ·exact h.ok.aL k D a
 ·rcases nP a with b | rfl
  ·exact h.cC D b
  grind
theorem Good.oz {F:ay}(h:Good F)(i:Nat){n':aD}(b:n'.words.length=F.lines*8):Good {F with nodes:=F.nodes.set i n'}:=by
 refine⟨⟨h.ok.lines,by simpa using h.ok.nodes,λn hm=>?_,h.ok.aF,by simpa using h.ok.aL,by simpa using h.ok.ew⟩,h.cC,h.or⟩;rcases nP hm with a | rfl
 ·exact h.ok.words n a
 grind
theorem Good.take {F:ay}(h:Good F)(c:Int):Good (F.take c).2:=by
 unfold ay.take;cases i:F.cC c with
 |none=>exact h
 |some C=>
  obtain⟨p,d⟩:=ay.o' i;dsimp only;split
  ·exact h
  ·cases q:C.batch with
   |none=>exact h
   |some ds=>
    dsimp only;split
    ·exact h
    ·rename_i hw;have b:=h.ok.aL _ _ d;have n:gQ C.az=0:=by have:=b.waiting;omega
     refine h.eo d ⟨b.inc,b.az,λj l f=>?_,b.waiting,?_,λg e=>by cases e⟩ (h.cC C (b9 d))
     ·have a:=b.lane j l f;have o:=v_ n l (b9 f);refine⟨a.aL,a.inc,a.node,a.bG,λk r=>?_,a.ih⟩;have:=a.bG
      grind
     grind
theorem Oo {F:ay}(h:Good F){c:Int}{ds:ck}(a:(F.take c).1=some ds):ds.length<=1024:=by
 unfold ay.take at a;cases b:F.cC c with
 |none=>grind
 |some C=>
  rw[b]at a;dsimp only at a;obtain⟨f,d⟩:=ay.o' b;split at a
  ·cases a
  ·cases e:C.batch with
   |none=>grind
   |some es=>
    rw[e]at a;dsimp only at a;split at a
    ·cases a
    ·cases a;have:=(h.ok.aL _ _ d).batch.2
     grind
structure o0 (n i:Nat)(inc:Int)(k:Nat)(ls:List ct):Prop where
 len:ls.length=n
 lane:∀ (j:Nat) (l:ct),ls[j]?=some l->GQ i inc j k l/\gu l.pair
 gQ:gQ ls=k
def ub (l:ct)(k:Nat)(v:bc):ct:=⟨{l.pair with a1:=l.pair.a1++[v]},l.bG++[k]⟩
theorem KO {C:a9}{v:bc}{l:ct}(a:C.az[v.node.toNat]?=some l):(C.fe k v).az=C.az.set v.node.toNat (ub l k v):=by
 show C.az.modify _ _=_;apply i_
 grind[List.getElem?_eq_some_iff,ub]
theorem Ad {α:Type}{l:List α}{x y:α}(a:i<l.length)(h:(l.set i x)[j]?=some y):(i=j/\y=x)\/(i≠j/\l[j]?=some y):=by
 grind
theorem o0.post {n i:Nat}{inc:Int}{k:Nat}{C:a9}(h:o0 n i inc k C.az){v:bc}(r:0<=v.node)(s:v.node<n)(al:p7 v):o0 n i inc (k+1) (C.fe k v).az:=by
 have b:v.node.toNat<C.az.length:=by rw[h.len];omega
 have d:C.az[v.node.toNat]?=some C.az[v.node.toNat]:=b2 b;rw[KO d];generalize C.az[v.node.toNat]=p at d;refine⟨by simpa using h.len,λj l g=>?_,?_⟩
 ·rcases Ad b g with⟨e,rfl⟩ | ⟨e,g⟩
  ·obtain⟨a,c⟩:=h.lane _ _ d;refine⟨⟨a.aL,a.inc,by rw[<-e];exact a.node,by simp[ub,a.bG],λq o=>?_,(c.post al).ih⟩,c.post al⟩;rcases i'.1 o with f | f
   ·have:=a.low q f;omega
   grind
  ·obtain⟨a,c⟩:=h.lane j l g;exact⟨⟨a.aL,a.inc,a.node,a.bG,λq o=>by have:=a.low q o;omega,a.ih⟩,c⟩
 ·have:=wD (l':=ub p k v) d;have t:(ub p k v).pair.a1.length=p.pair.a1.length+1:=by simp[ub]
  have f:=h.gQ;omega
theorem o0.IU {n i:Nat}{inc:Int}:∀ (vs:a_) (k:Nat) (C:a9),o0 n i inc k C.az->(∀ v ∈ vs,0<=v.node/\v.node<n/\p7 v)->o0 n i inc (k+vs.length) (C.fB k vs).az
 | [],k,C,h,_=>h
 |v::vs,k,C,h,al=>by
  obtain⟨a,b,c⟩:=al v fR;have:=o0.IU vs (k+1) (C.fe k v) (h.post a b c) λx d=>al x (fG _ d)
  grind[a9.fB,List.length_cons,Nat.add_comm,Nat.add_assoc]
theorem B4:∀ (vs:a_) (k:Nat) (C:a9),(C.fB k vs).alive=C.alive/\(C.fB k vs).inc=C.inc
 | [],_,_=>⟨rfl,rfl⟩
 |v::vs,k,C=>by rw[a9.fB];exact B4 vs (k+1) (C.fe k v)
theorem JR {nodes lines:Int}:∀ {vs:a_},hr nodes lines vs=0->∀ v ∈ vs,v.v.valid nodes lines=0
 | [],_,v,al=>by grind
 |x::vs,h,v,al=>by
  unfold hr at h;split at h
  ·rename_i a;exact cp h a
  ·rename_i a;rcases f0.1 al with rfl | al
   ·omega
   ·exact JR h v al
theorem Good.post {F:ay}(h:Good F)(c:Int)(vs:a_):Good (F.post c vs).2:=by
 unfold ay.post;cases t:F.cC c with
 |none=>exact h
 |some C=>
  obtain⟨A,g⟩:=ay.o' t;have e:=h.ok.aL _ _ g;dsimp only;split
  ·exact h
  rename_i D;split
  ·exact h
  rename_i E;split
  ·exact h
  rename_i x;split
  ·exact h
  rename_i y;split
  ·exact h
  rename_i i;have s:C.batch=none:=by simp_all
  have f:C.alive=true:=by grind
  have z:C.waiting=0:=by have:=e.batch.1;grind
  have n:gQ C.az=0:=by rw[<-e.waiting];grind
  have o:∀ v ∈ vs,0<=v.node/\v.node<F.nodes.length/\p7 v:=by intro v al;obtain⟨p,r⟩:=yX (JR (Decidable.not_not.1 i) v al);obtain⟨i1,i2,i3,i4,i5,i6,i7⟩:=qg r;exact⟨i5,i6,p⟩
  have k:C.az.length=F.nodes.length:=by rw[e.az,f];rfl
  have hinv:o0 F.nodes.length c.toNat C.inc 0 C.az:=by
   refine⟨k,λj l d=>?_,n⟩;have b:=e.lane j l d;refine⟨⟨b.aL,b.inc,b.node,b.bG,λq w=>?_,b.ih⟩,h.cC C (b9 g) l (b9 d)⟩;have B:=b.low q w
   grind
  have a:=o0.IU vs 0 C hinv o;rw[iZ]at a;obtain⟨s1,s2⟩:=B4 vs 0 C;refine h.eo g ⟨?_,?_,λj l d=>?_,?_,?_,?_⟩ λl d=>?_
  ·show 0<=(C.fB 0 vs).inc/\(C.fB 0 vs).inc<=59;rw[s2];exact e.inc
  ·show(C.fB 0 vs).az.length=if(C.fB 0 vs).alive then _ else _;rw[s1,f,a.len];rfl
  ·have:=(a.lane j l d).1
   grind[a9.j4]
  ·show vs.length=gQ (C.fB 0 vs).az;rw[a.gQ]
  ·grind[a9.j4]
  ·grind[a9.j4]
  ·obtain⟨j,u⟩:=ez.1 d;exact(a.lane j l u).2
theorem uH.comes {n i:Nat}{C:a9}(b:uH n i C){j:Nat}{l:ct}(r:C.az[j]?=some l)(nd:aD)(x:gu l.pair):uH n i (C.comes j l (l.pair.step nd).1 (l.pair.step nd).2.2):=by
 have c:=b.lane j l r;have p:=(sh.1 r).1;obtain⟨s1,s2,u⟩:=DD l.pair nd;have g:=x.step nd;rcases Mi l.pair nd with⟨s,t⟩ | ⟨d,s,t,w⟩
 ·rw[s];refine⟨b.inc,?_,λk l' a=>?_,?_,b.batch,b.full⟩
  ·show(C.az.set j _).length=_;rw[pN];exact b.az
  ·rcases Ad p a with⟨e,rfl⟩ | ⟨e,a⟩
   ·exact⟨s1.trans c.aL,s2.trans c.inc,by rw[<-e];exact u.trans c.node,by show l.bG.length=(l.pair.step nd).1.a1.length;rw[c.bG,t],c.low,g.ih⟩
   ·exact b.lane k l' a
  ·have:=wD (l':={l with pair:=(l.pair.step nd).1}) r;show C.waiting=gQ (C.az.set j {l with pair:=(l.pair.step nd).1});have hw:=b.waiting
   grind
 ·rw[s];have y:0<l.pair.a1.length:=wz.2 w;have o:((C.comes j l (l.pair.step nd).1 (some d)).batch.getD []).length=(C.batch.getD []).length:=by cases h:C.batch<;>simp[a9.comes,h]
  refine⟨b.inc,?_,λk l' a=>?_,?_,?_,?_⟩
  ·show(C.az.set j _).length=_;rw[pN];exact b.az
  ·rw[o];rcases Ad p a with⟨e,rfl⟩ | ⟨e,a⟩
   ·refine⟨s1.trans c.aL,s2.trans c.inc,by rw[<-e];exact u.trans c.node,?_,λq z=>c.low q (uw z),g.ih⟩;show l.bG.tail.length=(l.pair.step nd).1.a1.length;rw[t,zx,zx,c.bG]
   ·exact b.lane k l' a
  ·have:=wD (l':=⟨(l.pair.step nd).1,l.bG.tail⟩) r;show C.waiting-1=gQ (C.az.set j ⟨(l.pair.step nd).1,l.bG.tail⟩);have hw:=b.waiting
   grind
  ·rw[o];have:=b.batch;show C.waiting-1<=_/\_;omega
  ·intro ds f;cases h:C.batch with
   |none=>simp[a9.comes,h]at f
   |some es=>simp[a9.comes,h]at f;rw[<-f,pN];exact b.full es h
theorem Mj {C:a9}{l:ct}{nd:aD}(b:gu l.pair)(e:∀ l ∈ C.az,gu l.pair):∀ l' ∈ (C.comes j l (l.pair.step nd).1 (l.pair.step nd).2.2).az,gu l'.pair:=by
 intro l' a;cases c:(l.pair.step nd).2.2 with
 |none=>
  rw[c]at a;rcases nP a with h | rfl
  ·grind
  ·exact b.step nd
 |some d=>
  rw[c]at a;rcases nP a with h | rfl
  ·grind
  ·exact b.step nd
theorem Good.bZ {F:ay}(h:Good F){os:List cH}(b:∀ p ∈ os,(0<=p.node/\p.node<F.nodes.length)/\gu p):Good {F with bZ:=os}:=
 ⟨⟨h.ok.lines,h.ok.nodes,h.ok.words,h.ok.aF,h.ok.aL,λp a=>⟨(b p a).1.1,(b p a).1.2,(b p a).2.ih⟩⟩,h.cC,λp a=>(b p a).2⟩
theorem Good.fY {F:ay}(h:Good F):∀ p ∈ F.bZ,(0<=p.node/\p.node<F.nodes.length)/\gu p:=λp a=>⟨⟨(h.ok.ew p a).1,(h.ok.ew p a).2.1⟩,h.or p a⟩
theorem Good.drop {F:ay}(h:Good F)(c:Int):Good (F.drop c).2:=by
 unfold ay.drop;split
 ·exact h
 ·exact h.bZ λp a=>h.fY p (zy a)
theorem Good.iY {F:ay}(h:Good F)(i:Nat):Good (F.iY i).2:=by
 unfold ay.iY;split
 ·exact h
 ·rename_i p g;split
  ·exact h
  ·rename_i n e;dsimp only;have hm:=b9 g;have d:=h.or p hm;have hw:=h.ok.words n (b9 e);have b:=h.oz p.node.toNat (n':=(p.step n).2.1) (by grind[EX]);have f:=(h.fY p hm).1;have j:=(DD p n).2.2;refine b.bZ (os:=if(p.step n).1.a1.length=0 then F.bZ.eraseIdx i else F.bZ.set i (p.step n).1) λq a=>?_
   have hlen:(F.nodes.set p.node.toNat (p.step n).2.1).length=F.nodes.length:=by simp
   show(0<=q.node/\q.node<((F.nodes.set p.node.toNat (p.step n).2.1).length:Int))/\_;rw[hlen];split at a
   ·exact h.fY q (zy a)
   ·rcases nP a with c | rfl
    ·exact h.fY q c
    ·exact⟨by grind,d.step n⟩
theorem Good.step {F:ay}(h:Good F)(x:fb):Good (F.step x).2:=by
 unfold ay.step;split
 ·exact h.iY _
 split
 ·exact h
 split
 ·exact h
 rename_i C e;obtain⟨g,a⟩:=ay.o' e;split
 ·exact h
 split
 ·rename_i l n c f;split
  ·exact h
  dsimp only;have hm:=b9 a;have b:=h.cC C hm l (b9 c);have hw:=h.ok.words n (b9 f);have d:=h.oz x.node.toNat (n':=(l.pair.step n).2.1) (by grind[EX]);refine d.eo a ?_ (Mj b (h.cC C hm));have:=(h.ok.aL _ _ a).comes c n b
  grind
 grind
theorem Good.die {F:ay}(h:Good F)(c:Int):Good (F.die c).2:=by
 unfold ay.die;cases o:F.cC c with
 |none=>exact h
 |some C=>
  obtain⟨t,b⟩:=ay.o' o;have f:=h.ok.aL _ _ b;dsimp only;split
  ·exact h
  ·have i:=h.eo b (C':={C with alive:=false,az:=[],batch:=none,waiting:=0}) ⟨f.inc,rfl,λj l a=>by grind,rfl,by simp,λds e=>by cases e⟩ (λl a=>by grind);refine i.bZ λp s=>?_
   rcases i'.1 s with d | d
   ·exact h.fY p d
   ·obtain⟨k,u⟩:=List.mem_filter.1 d;obtain⟨l,a,rfl⟩:=cW.1 k;obtain⟨j,g⟩:=ez.1 a;have n:=f.lane j l g;have q:=(sh.1 g).1;have r:=f.az;refine⟨?_,h.cC C (b9 b) l a⟩;rw[n.node]
    grind
theorem C4 (n i:Nat)(inc:Int)(j:Nat)(l:ct)(h:(hU n i inc)[j]?=some l):l=tE i inc j/\j<n:=by
 grind[hU,List.getElem?_eq_some_iff]
theorem Mk (n i:Nat)(inc:Int):gQ (hU n i inc)=0:=by
 unfold hU gQ;rw[oM];induction n with
 |zero=>rfl
 |succ n a=>rw[qP,kY,List.sum_append,a];rfl
theorem Good.fresh {n c lines:Nat}(y:1<=n/\n<=5)(u:1<=c/\c<=6)(b:98<=lines/\lines<=256):Good (ay.fresh n c lines):=by
 have o:∀ (j:Nat) (l:ct) (i:Nat),(hU n i 1)[j]?=some l->gu l.pair:=by intro j l i b;obtain⟨rfl,_⟩:=C4 _ _ _ _ _ b;exact⟨λv al=>by grind[tE],λ_=>rfl,λ_=>rfl,λx xs e=>by grind[tE]⟩
 refine⟨⟨by simp[ay.fresh];omega,by simp[ay.fresh];omega,λx r=>?_,by simp[ay.fresh];omega,λi C d=>?_,λp g=>by simp[ay.fresh]at g⟩,λC d l b=>?_,λp g=>by simp[ay.fresh]at g⟩
 ·simp[ay.fresh]at r;rw[r.2];show(fmt lines n).length=lines*8;exact Fw _ _
 ·have a:((List.range c).map (hd n))[i]?=some C:=d;rw[fQ]at a;cases q:(List.range c)[i]? with
  |none=>grind
  |some k=>
   rw[q]at a;obtain⟨s,h⟩:=sh.1 q;simp at s h a;subst h;rw[<-a];refine⟨by simp[hd],by simp[hd,hU,ay.fresh],λj l b=>?_,?_,by simp[hd],λds e=>by grind[hd]⟩
   ·have f:=o j l i b;obtain⟨rfl,_⟩:=C4 _ _ _ _ _ b;exact⟨rfl,rfl,rfl,rfl,λk w=>by grind[tE],f.ih⟩
   ·show 0=gQ (hU n i 1);rw[Mk]
 ·simp[ay.fresh]at d;obtain⟨i,_,rfl⟩:=d;obtain⟨j,t⟩:=ez.1 b;exact o j l i t
end
section
structure gi (A:a4)(aw:bR)(w:an)(aM:Nat)(L:a4)(u:an)(B:a4)(wA:bR)(X:bs):Prop where
 next:Next A B aw wA w u
 cw:cj (λk=>B k\/L k) wA u aM X
 loc:∀ k,L k->w.heap.size<=k/\k<u.heap.size/\wA k=.cO
theorem gi.start {aw:bR}{c:an}{X:bs}(h:cj A aw w aM X)(d:ai w c)(b:∀ k,L k->w.heap.size<=k/\k<c.heap.size):gi A aw w aM L c A aw X:=by
 refine⟨h.refl d,?_,λk a=>⟨(b k a).1,(b k a).2,h.fresh (b k a).1⟩⟩;refine(h.B_ d).nB (λk a=>?_) λk a=>.inl (h.fs k a)
 grind
theorem gi.op {aw:bR}{l:bR}{X:bs}(t:gi A aw w aM L u B l X){F:ay}(p:d_ (λk=>B k\/L k) l u aM F bB K) :
  ∃ B' f h,gi A aw w aM L bB B' f h/\h.pure=F/\K (λk=>B' k\/L k)/\ao (λk=>B k\/L k) u bB/\(∀ k,k<u.heap.size->B' k\/L k->B k\/L k)/\(∀ k,L k->bB.heap[k]?=u.heap[k]?):=by
 obtain⟨A',f,h,n,q,s,r⟩:=p;have o:A'=λk=>gV A aw f w k\/L k:=by
  funext k;apply propext;rw[n.iff k];constructor
  ·rintro(b | ⟨b,c | c,e⟩)
   ·exact .inl (.inl b)
   ·rcases(t.next.iff k).1 c with g | g
    ·grind
    ·exact .inl (.inr g)
   grind
  ·rintro((b | ⟨b,c,e⟩) | b)
   ·exact .inl b
   ·refine .inr ⟨fE b t.next.aA.size,.inl ((t.next.iff k).2 (.inr ⟨b,c,e⟩)),?_⟩;by_cases a:l k=.cO
    ·exact a
    ·exact cp e (t.next.grow k b a)
   ·obtain⟨_,c,e⟩:=t.loc k b;exact .inr ⟨c,.inr b,e⟩
 have j:ao (λk=>B k\/L k) u bB:=n.aA.mono λk _ a=>t.cw.fs k a
 refine⟨gV A aw f w,f,h,⟨⟨t.next.aA.trans n.aA λk d a=>t.next.grow k d a,λk d a=>t.next.grow k d (n.grow k (fE d t.next.aA.size) a),λk=>Iff.rfl⟩,o▸q,λk d=>?_⟩,s,o▸r,j,λk d a=>?_,λk d=>?_⟩
 ·obtain⟨b,c,e⟩:=t.loc k d;refine⟨b,fE c n.aA.size,?_⟩;by_cases a:f k=.cO
  ·exact a
  ·exact cp e (n.grow k c a)
 ·have i:A' k:=by grind
  rcases(n.iff k).1 i with g | g
  ·exact t.cw.fs k (n.grow k d g)
  grind
 ·obtain⟨_,c,e⟩:=t.loc k d;exact n.aA.block k c λa=>a e
theorem gi.local {aw:bR}{e:bR}{X:bs}(t:gi A aw w aM L u B e X){S:a4}(c:ao S u bB)(b:∀ k,S k->L k):gi A aw w aM L bB B e X:=by refine⟨⟨t.next.aA.trans c λk f a=>?_,t.next.grow,t.next.iff⟩,t.cw.other c λk a=>⟨.inr (b k a),(t.loc k (b k a)).2.2⟩,λk d=>⟨(t.loc k d).1,fE (t.loc k d).2.1 c.size,(t.loc k d).2.2⟩⟩;have:=(t.loc k (b k a)).1;omega
theorem gi.new {aw:bR}{a:bR}{X:bs}(t:gi A aw w aM L u B a X)(b:ai u bB):gi A aw w aM L bB B a X:=
 t.local b λ_ h=>h.elim
theorem gi.done {aw:bR}{b:bR}{X:bs}(t:gi A aw w aM L u B b X)(c:K B):d_ A aw w aM X.pure u K:=
 ⟨B,b,X,t.next,t.cw.nB (λk a=>.inl a) (λk a=>(t.next.iff k).2 (.inl a)),rfl,c⟩
theorem gU.aA {A':a4}{a:ak}{xs:ax}(d:bl w a xs)(b:xs=[]\/gU A a)(c:∀ k,k<w.heap.size->A' k->A k):xs=[]\/gU A' a:=by
 rcases b with b | b
 ·grind
 ·by_cases e:xs=[]
  ·grind
  ·refine .inr ?_;cases a with
   |none=>trivial
   |some a=>intro hm;exact b (c _ (d.lt e) hm)
theorem ic.aA {A A':a4}{w w':an}{a:ak}{G:a3}(h:ic A w a G)(c:ao A w w')(b:∀ k,k<w.heap.size->A' k->A k):ic A' w' a G:=by obtain⟨rows,q,g,f,p⟩:=h;refine⟨rows,q,g.aA c f,gU.aA g f b,λi r ds n o=>?_⟩;obtain⟨d,e,j,l⟩:=p i r ds n o;exact⟨d.aA c e,gU.aA d e b,j.aA c b,l⟩
abbrev p4:bY:=42
abbrev Bg:bY:=100
theorem Lg (rows:List Row):∀ u ∈ lz rows,single u=true:=by intro u hu;simp only[lz,cW]at hu;obtain⟨r,_,rfl⟩:=hu;rfl
theorem Oq {z:an}{S:ak}{gc:Nat}{G:a3}(a8:ic B z S G)(bj:G.length<=1000000){b:Nat}{raw:List bV}{ds:ck}(R:av z b (gv raw).flatten jz)(W:gT B z raw ds)(ab:¬ B b)(V:ds.length<=1024)(aB:∀ k,B k->k<z.heap.size)(bk:n=raw.length)
  {K:Nat->ak->Nat->Nat->aJ} (q:∀ p ap cap ch,z.heap.size<=p->ic B ch ap (G++[ds])->G.length+1<=cap->ai z ch->K p ap (G.length+1) cap ch) :
  ∃ (ap:ak) (j g:Nat),∃ af,(Builtin.append_ #[p4,p4] p4 #[(.slice none 0 0),(.slice S G.length gc)]).run prog z=.ok (.slice ap j g) af/\∀ p O,p=af.heap.size->O=af.alloc (.cells #[.slice (some ⟨b,0,none⟩) n c] Bg)->
   ∃ (l:ak) (d a:Nat),∃ Q,(Builtin.append_ #[p4,p4] p4 #[(.slice ap j g),(.slice (some ⟨p,0,none⟩) 1 1)]).run prog O=.ok (.slice l d a) Q/\K p l d a Q:=by
 obtain⟨inf,ah,aq,N,a0⟩:=fV (T:=Bg) (z:=.slice none 0 0) (n:=1) (m:=24) (by kernel_rfl);obtain⟨rows,ae,a',J,a5⟩:=a8;have ad:aX z Bg inf.size none 0 0 []:=aX.nil _ _ _;have ba:(lz rows).length=G.length:=by grind[lz]
 obtain⟨ap,dD,aG,M,w,Z,U⟩:=aX.append (P:=prog) (t:=p4) (ty:=p4) Tryz.underlying42 ah aq (by rw[N];rfl) (by omega) ad (s:=S) (m:=G.length) (c:=gc) (news:=lz rows) (by grind) a' (Lg rows) (by omega) (by grind);have I:ai z aG:=Z.mono λk _ R=>by obtain⟨o,J⟩:=R;cases J
 have F:∀ k,aP ap k->z.heap.size<=k:=λk q=>by
  rcases U with e | e
  ·rw[e]at q;obtain⟨o,J⟩:=q;cases J
  ·rw[e]at q;obtain⟨o,J⟩:=q;grind
 refine⟨ap,0+G.length,dD,aG,M,?_⟩;rw[iZ,qO]at w;rw[iZ];refine pv Tryz.underlying42 ah aq (by rw[N];rfl) (by omega) w (vs:=[.slice (some ⟨b,0,none⟩) n c]) (by grind) (by intro v al;simp at al;subst al;rfl) (by omega) (by omega) ?_;intro p l E D aZ u H ag;have f:ai z D:=tB I H F;have bb:=I.size;refine q p l E D (by omega) ?_ u.le f;have X:∀ k,aP l k->z.heap.size<=k:=λk q=>by
  grind
 have C:lz rows++[.slice (some ⟨b,0,none⟩) n c]=lz (rows++[⟨some ⟨b,0,none⟩,c,raw⟩]):=by grind[lz]
 have L:bl D l (lz (rows++[⟨some ⟨b,0,none⟩,c,raw⟩])):=by rw[<-C];exact u.rd
 refine⟨rows++[⟨some ⟨b,0,none⟩,c,raw⟩],by grind,L,hv L λk q R=>?_,λi r es x y=>?_⟩
 ·grind
 ·rw[sg]at x y;rw[ae]at x;split at x
  ·rename_i A;rw[bh A]at y;obtain⟨aH,aO,aR,aV⟩:=a5 i r es x y;exact⟨aH.new f,aO,aR.aA (ao.cm f) (λ_ _ h=>h),aV⟩
  ·rename_i A;rw [aQ A] at y;have Y:i - G.length=0:=by
    grind
   rw[Y]at x y;simp at x y;subst x y;refine⟨fj (ai.aj f R) (by grind),.inr ab,W.aA (ao.cm f) (λ_ _ h=>h),V⟩
end
section
def nI (C:a9):Nat:=if C.alive then 1 else 0
def ay.e_ (F:ay):Nat:=(F.aF.map nI).sum
def me (F:ay):Prop:=F.bZ.length+5*F.e_<=1000
theorem AI:∀ {cs:List a9} {i:Nat} {C C':a9},cs[i]?=some C->((cs.set i C').map nI).sum+nI C=(cs.map nI).sum+nI C'
 | [],i,C,C',h=>by grind
 |a::cs,0,C,C',h=>by grind
 |a::cs,i+1,C,C',h=>by have:=AI (cs:=cs) (i:=i) (C:=C) (C':=C') (by simpa using h);simp at this ⊢;omega
structure cr (F:ay):Prop where
 cg:Good F
 hg:me F
theorem cr.le {F:ay}(h:cr F):F.bZ.length<=1000:=by have:=h.hg;grind[me]
theorem me.eo {F:ay}(h:me F){C C':a9}(a:F.aF[i]?=some C)(b:C'.alive=C.alive):me {F with aF:=F.aF.set i C'}:=by
 have:=AI (C':=C') a
 grind[nI,me,ay.e_]
theorem cr.take {F:ay}(h:cr F)(c:Int):cr (F.take c).2:=by
 refine⟨h.cg.take c,?_⟩;unfold ay.take;cases b:F.cC c with
 |none=>exact h.hg
 |some C=>
  obtain⟨d,a⟩:=ay.o' b;dsimp only;split
  ·exact h.hg
  ·cases e:C.batch with
   |none=>exact h.hg
   |some ds=>
    dsimp only;split
    ·exact h.hg
    ·exact h.hg.eo a rfl
theorem cr.post {F:ay}(h:cr F)(c:Int)(vs:a_):cr (F.post c vs).2:=by
 refine⟨h.cg.post c vs,?_⟩;unfold ay.post;cases b:F.cC c with
 |none=>exact h.hg
 |some C=>
  obtain⟨d,a⟩:=ay.o' b;dsimp only;repeat' split
  all_goals first | exact h.hg | exact h.hg.eo a (B4 vs 0 C).1
theorem cr.iY {F:ay}(h:cr F)(i:Nat):cr (F.iY i).2:=by
 refine⟨h.cg.iY i,?_⟩;unfold ay.iY;split
 ·exact h.hg
 ·split
  ·exact h.hg
  ·dsimp only;have:=h.hg;unfold me ay.e_ at *
   grind
theorem cr.step {F:ay}(h:cr F)(x:fb):cr (F.step x).2:=by
 refine⟨h.cg.step x,?_⟩;unfold ay.step;split
 ·exact(h.iY _).hg
 split
 ·exact h.hg
 split
 ·exact h.hg
 rename_i C b;obtain⟨c,a⟩:=ay.o' b;split
 ·exact h.hg
 split
 ·rename_i l n d e;split
  ·exact h.hg
  dsimp only;refine me.eo (F:={F with nodes:=_}) h.hg a ?_;cases(l.pair.step n).2.2<;>rfl
 ·exact h.hg
theorem cr.drop {F:ay}(h:cr F)(c:Int):cr (F.drop c).2:=by
 refine⟨h.cg.drop c,?_⟩;unfold ay.drop;split
 ·exact h.hg
 ·have:=h.hg;unfold me ay.e_ at *
  grind
theorem cr.die {F:ay}(h:cr F)(c:Int):cr (F.die c).2:=by
 refine⟨h.cg.die c,?_⟩;unfold ay.die;cases e:F.cC c with
 |none=>exact h.hg
 |some C=>
  obtain⟨k,b⟩:=ay.o' e;have d:=h.cg.ok.aL _ _ b;dsimp only;split
  ·exact h.hg
  ·rename_i n;have a:C.alive=true:=by grind
   have l:=AI (C':={C with alive:=false,az:=[],batch:=none,waiting:=0}) b;have f:nI C=1:=by grind[nI]
   have g:nI {C with alive:=false,az:=[],batch:=none,waiting:=0}=0:=rfl;have i:((C.az.map ct.pair).filter (λp=>decide (0<p.a1.length))).length<=C.az.length:=by
    grind
   have j:C.az.length<=5:=by rw[d.az,a];exact h.cg.ok.nodes.2
   have:=h.hg
   grind[me,ay.e_,List.length_append]
theorem cr.oz {F:ay}(h:cr F)(i:Nat){n':aD}(a:n'.words.length=F.lines*8):cr {F with nodes:=F.nodes.set i n'}:=⟨h.cg.oz i a,h.hg⟩
theorem cr.fresh {n c lines:Nat}(d:1<=n/\n<=5)(a:1<=c/\c<=6)(b:98<=lines/\lines<=256):cr (ay.fresh n c lines):=by
 refine⟨Good.fresh d a b,?_⟩;have:∀ (c:Nat),(((List.range c).map (hd n)).map nI).sum=c:=by
  intro c;induction c with
  |zero=>rfl
  |succ c e=>rw[qP,kY,kY,List.sum_append,e];rfl
 unfold me ay.e_;show 0+5*(((List.range c).map (hd n)).map nI).sum<=1000
 grind
def jM (F:ay)(sch:a7)(n:Nat):Nat:=if n<sch.length then(sch.getD n 0 % (F.dd.length:Int)).toNat else 0
def e6 (F:ay)(sch:a7)(n:Nat):Bool×ay:=match F.dd[jM F sch n]? with
 |none=>(false,F)
 |some x=>F.step x
theorem cr.e6 {F:ay}(h:cr F)(sch:a7)(n:Nat):cr (e6 F sch n).2:=by
 unfold Go.Proofs.YtmkljjbioomepaaGreat.e6;split
 ·exact h
 ·exact h.step _
theorem C5 {F:ay}(h:nU F):F.dd.length<=30+F.bZ.length:=by
 unfold ay.dd;rw[fF,BR];have c:=BQ (n:=5) 0 F.aF λC a=>by
  obtain⟨i,b⟩:=ez.1 a;have d:=(h.aL i C b).az;have e:=h.nodes.2
  grind
 have f:=h.aF.2;omega
theorem Qr {aw:bR}{X:bs}(h:cj A aw w aM X)(i:cr X.pure){sch:a7}{sa:ak}{sc:Nat}(D:bl w sa (is sch))(B:∀ x ∈ sch,dU x)(n:Nat) :
  a5 35 [ptr aM,.slice sa sch.length sc,.int .i64 n] w λv w'=>v=.bool (e6 X.pure sch n).1/\d_ A aw w aM (e6 X.pure sch n).2 w' λ_=>True:=by
 have r:X.bZ.length<=100000000:=by have:=i.le;grind[bs.pure]
 refine ba Tryz.func35 ?_;rw[ptr,Y5];refine aB (zG h i.cg.ok r) ?_;rintro v w1 ⟨a,cap,rfl,c⟩;have j:=h.new c.new;refine⟨_,_,_,rfl,eg (λu=>?_) (λu=>?_)⟩
 ·have s:X.pure.dd=[]:=hN (by omega);have:e6 X.pure sch n=(false,X.pure):=by grind[e6]
  rw[this];exact⟨rfl,d_.same h c.new trivial⟩
 ·refine bb (λC=>?_) (λC=>?_)
  ·have q:n<sch.length:=by omega
   have y:sch[n]?=some sch[n]:=b2 q;have z:(is sch)[n]?=some (.int .i64 sch[n]):=by grind[is]
   have k:=B _ (b9 y);rcases D.new c.new with he | ⟨b,o,rfl,I⟩
   ·grind
   refine dW (by omega) (by omega) ⟨sch[n],by grind,?_⟩;have hlen:X.pure.dd.length<=1000000000:=by have G:=i.le;have H:=C5 i.cg.ok;omega
   refine aB (q0 _ _ _ k (by omega)) ?_;rintro v J ⟨rfl,rfl⟩;have l:0<=sch[n] % (X.pure.dd.length:Int)/\sch[n] % (X.pure.dd.length:Int)<X.pure.dd.length:=⟨uv _ (by omega),uu _ (by omega)⟩;rw[aQ (by omega)];refine⟨_,rfl,?_⟩;have p:jM X.pure sch n=(sch[n] % (X.pure.dd.length:Int)).toNat:=by
    unfold jM
    grind
   have e:X.pure.dd[jM X.pure sch n]?=some X.pure.dd[jM X.pure sch n]:=b2 (by omega);have g:e6 X.pure sch n=X.pure.step X.pure.dd[jM X.pure sch n]:=by grind[e6]
   obtain⟨t,E,rfl,d,_⟩:=c.own.rd.row (CX _) (by omega) (CY e);refine dW l.1 l.2 ?_;rw[<-p];refine⟨_,_,_,d,?_⟩;refine aB (z' j i.cg.ok X.pure.dd[jM X.pure sch n]) ?_;rintro v F ⟨rfl,f⟩;rw[g];exact⟨_,rfl,rfl,d_.trans (h.refl c.new) f⟩
  ·have p:jM X.pure sch n=0:=by unfold jM;grind
   have e:X.pure.dd[0]?=some X.pure.dd[0]:=b2 (by omega);have g:e6 X.pure sch n=X.pure.step X.pure.dd[0]:=by grind[e6]
   obtain⟨t,E,rfl,d,_⟩:=c.own.rd.row (CX _) (by omega) (CY e);refine dW (by omega) (by omega) ?_;refine⟨_,_,_,d,?_⟩;refine aB (z' j i.cg.ok X.pure.dd[0]) ?_;rintro v F ⟨rfl,f⟩;rw[g];exact⟨_,rfl,rfl,d_.trans (h.refl c.new) f⟩
structure kR where
 at_:Int
 kind:Int
 a:Int
def kR.cells (e:kR):ax:=[.int .i64 e.at_,.int .i64 e.kind,.int .i64 e.a]
def kR.val (e:kR):bf:=.agg e.cells.toArray
structure kR.u9 (e:kR):Prop where
 at_:dU e.at_
 kind:dU e.kind
 a:dU e.a
def ay.oz (F:ay)(i:Nat)(f:aD->aD):ay:=match F.nodes[i]? with
 |none=>F
 |some n=>{F with nodes:=F.nodes.set i (f n)}
def S9 (n:aD):aD:={n with down:=true}
def AV (n:aD):aD:=n.back.1
theorem NA (n:aD):(AV n).words.length=n.words.length:=by
 grind[AV,aD.back]
theorem cr.Jp {F:ay}(h:cr F)(i:Nat){f:aD->aD}(a:∀ n,(f n).words.length=n.words.length):cr (F.oz i f):=by
 unfold ay.oz;split
 ·exact h
 ·rename_i n b;exact h.oz i (by rw[a];exact h.cg.ok.words n (b9 b))
def ay.vB (F:ay)(cs:a7)(e:kR):ay:=
 if e.kind % 4=0 then(if cs.length=0 then F else(F.die (cs.getD (e.a % (cs.length:Int)).toNat 0)).2)
 else if e.kind % 4=1 then F.oz (e.a % (F.nodes.length:Int)).toNat S9
 else if e.kind % 4=2 then F.oz (e.a % (F.nodes.length:Int)).toNat AV
 else(F.drop (e.a % 3)).2
theorem cr.vB {F:ay}(h:cr F)(cs:a7)(e:kR):cr (F.vB cs e):=by
 unfold ay.vB;split
 ·split
  ·exact h
  ·exact h.die _
 ·split
  ·exact h.Jp _ λ_=>rfl
  ·split
   ·exact h.Jp _ NA
   ·exact h.drop _
end
section
structure Conv where
 dV:Type
 O:Type
 next:dV->a3->a_×O×Bool
structure bK (c:Conv) where
 aL:Int
 bp:c.dV
 a2:a3
 en:Bool
 bad:Bool
 out:c.O
section
variable {c:Conv}
def bK.told (t:bK c):bK c:={t with en:=(c.next t.bp t.a2).2.2,out:=(c.next t.bp t.a2).2.1}
def bK.rC (t:bK c):Option ck->bK c
 |none=>t
 |some d=>{t with a2:=t.a2++[d]}
def bK.fail (t:bK c):bK c:={t with en:=true,bad:=true}
def gG (F:ay)(t:bK c):ay×bK c:=
 if 200<t.a2.length then(F,t.fail)else if(c.next t.bp t.a2).2.2=true then(F,t.told)
 else if(F.post t.aL (c.next t.bp t.a2).1).1≠0 then((F.post t.aL (c.next t.bp t.a2).1).2,t.told.fail)else((F.post t.aL (c.next t.bp t.a2).1).2,t.told)
def br (F:ay)(t:bK c):ay×bK c:=
 if t.en=true\/F.alive t.aL=false\/0<F.waiting t.aL then(F,t)else gG (F.take t.aL).2 (t.rC (F.take t.aL).1)
def turns:ay->List (bK c)->ay×List (bK c)
 |F,[]=>(F,[])
 |F,t::ts=>((turns (br F t).1 ts).1,(br F t).2::(turns (br F t).1 ts).2)
def je (F:ay)(cs:a7)(n:Nat):List kR->ay
 | []=>F
 |e::es=>je (if e.at_ % 60=n then F.vB cs e else F) cs n es
def eG (cs sch:a7)(es:List kR):Nat->Nat->ay->List (bK c)->ay×List (bK c)
 | 0,_,F,l=>(F,l)
 |f+1,n,F,l=>
  if(e6 (turns (je F cs n es) l).1 sch n).1=true then eG cs sch es f (n+1) (e6 (turns (je F cs n es) l).1 sch n).2 (turns (je F cs n es) l).2
  else((e6 (turns (je F cs n es) l).1 sch n).2,(turns (je F cs n es) l).2)
def dP (F:ay)(l:List (bK c))(sch:a7)(es:List kR)(most:Nat):ay×List (bK c):=
 turns (eG (l.map bK.aL) sch es most 0 F l).1 (eG (l.map bK.aL) sch es most 0 F l).2
def mI (F:ay)(t:bK c):ay×List (bK c):=dP F [t] [] [] 20000
theorem cr.tail {F:ay}(h:cr F)(t:bK c):cr (gG F t).1:=by
 unfold gG;split
 ·exact h
 ·split
  ·exact h
  ·split
   ·exact h.post _ _
   ·exact h.post _ _
theorem cr.br {F:ay}(h:cr F)(t:bK c):cr (br F t).1:=by
 unfold Go.Proofs.YtmkljjbioomepaaGreat.br;split
 ·exact h
 ·exact(h.take _).tail _
theorem cr.turns:∀ (l:List (bK c)) {F:ay},cr F->cr (turns F l).1
 | [],_,h=>h
 |t::l,F,h=>by unfold Go.Proofs.YtmkljjbioomepaaGreat.turns;exact cr.turns l (h.br t)
theorem cr.je {cs:a7}{n:Nat}:∀ (es:List kR) {F:ay},cr F->cr (je F cs n es)
 | [],F,h=>h
 |e::es,F,h=>by
  unfold Go.Proofs.YtmkljjbioomepaaGreat.je;refine cr.je es ?_;split
  ·exact h.vB cs e
  ·exact h
theorem cr.eG (cs sch:a7)(es:List kR):∀ (f n:Nat) {F:ay} (l:List (bK c)),cr F->cr (eG cs sch es f n F l).1
 | 0,_,_,_,h=>h
 |f+1,n,F,l,h=>by
  unfold Go.Proofs.YtmkljjbioomepaaGreat.eG;have a:=(cr.turns l (cr.je (cs:=cs) (n:=n) es h)).e6 sch n;split
  ·exact cr.eG cs sch es f (n+1) _ a
  ·exact a
theorem cr.dP {F:ay}(h:cr F)(l:List (bK c))(sch:a7)(es:List kR)(most:Nat):cr (dP F l sch es most).1:=cr.turns _ (cr.eG _ _ _ _ _ _ h)
def nW (t:bK c):Prop:=t.en=false->t.a2.length<=200
theorem Ml {F:ay}{t:bK c}:nW (gG F t).2:=by
 unfold gG;split
 ·intro e;cases e
 ·rename_i a;split
  ·intro _;show t.a2.length<=200;omega
  ·split
   ·intro e;cases e
   ·intro _;show t.a2.length<=200;omega
theorem Mm {F:ay}{t:bK c}(h:nW t):nW (br F t).2:=by
 grind[br,Ml]
structure m5 (DZ:ay)(fz:List (bK c))(i:Nat)(F:ay)(l:List (bK c)):Prop where
 cw:(turns F (l.drop i)).1=(turns DZ fz).1
 rest:l.take i++(turns F (l.drop i)).2=(turns DZ fz).2
 len:l.length=fz.length
theorem m5.start (F:ay)(l:List (bK c)):m5 F l 0 F l:=⟨rfl,rfl,rfl⟩
theorem m5.step {b F:ay}{f l:List (bK c)}(h:m5 b f i F l){t:bK c}(j:l[i]?=some t):m5 b f (i+1) (br F t).1 (l.set i (br F t).2):=by
 obtain⟨a,he⟩:=sh.1 j;obtain⟨g,d,k⟩:=h;rw[wv a,he,turns]at g d;refine⟨?_,?_,by grind⟩
 ·grind[List.drop_set_of_lt]
 ·rw [List.drop_set_of_lt (by omega),<-d];rw [Zu (by grind)];have e:List.take i (l.set i (br F t).2)=List.take i l:=by
   apply i_
   grind
  grind
theorem m5.done {a F:ay}{b l:List (bK c)}(h:m5 a b i F l)(g:i=l.length):turns a b=(F,l):=by
 obtain⟨d,e,f⟩:=h
 grind[List.drop_length,turns,List.take_length,Prod.ext]
theorem y':∀ (F:ay) (l:List (bK c)),(turns F l).2.length=l.length
 | _,[]=>rfl
 |F,t::ts=>by simp[turns,y']
theorem Cz (cs sch:a7)(es:List kR):∀ (f n:Nat) (F:ay) (l:List (bK c)),(eG cs sch es f n F l).2.length=l.length
 | 0,_,_,_=>rfl
 |f+1,n,F,l=>by
  unfold eG;split
  ·rw[Cz,y']
  ·exact y' _ _
theorem NB (F:ay)(t:bK c):∃ a,(mI F t).2=[a]:=by
 have:(mI F t).2.length=1:=by grind[mI,dP,y',Cz]
 grind[List.length_eq_one_iff]
end
def pR (A:a4)(u:an)(a:ak)(xs:ax):Prop:=bl u a xs/\(xs=[]\/gU A a)
theorem pR.aA {A A':a4}{w w':an}{a:ak}{xs:ax}(h:pR A w a xs)(c:ao A w w')(b:∀ k,k<w.heap.size->A' k->A k):pR A' w' a xs:=⟨h.1.aA c h.2,gU.aA h.1 h.2 b⟩
theorem aX.V8 {e sz cap g:Nat}{rows:List ax}(h:aX w e sz (some ⟨g,0,none⟩) n cap rows.flatten)(c:∀ r ∈ rows,r.length=sz)(l:rows.length=n)(j:i<n){vs:ax}(al:vs.length=sz)(d:∀ v ∈ vs,single v=true) :
  ej w ⟨g,i*sz,none⟩ 0 vs/\aX (cI w ⟨g,i*sz,none⟩ 0 vs) e sz (some ⟨g,0,none⟩) n cap (rows.set i vs).flatten:=by
 subst l;rcases h.2 with⟨he,_⟩ | ⟨t,cur,he,a,b,hm,u,s⟩
 ·cases he
 ·simp at he;subst he;have f:=nh c;have k:i*sz+sz<=rows.length*sz:=by rw[<-uk];exact ui _ j
  have p:rows.length*sz<=cap*sz:=ui _ b;refine⟨gq a (by omega) d,?_⟩;have q:=a.cI (o:=i*sz) (i:=0) (vs:=vs);refine⟨?_,.inr ⟨g,_,rfl,q,b,hm,?_,?_⟩⟩
  ·rw[nh (sz:=sz),pN]
   grind
  ·rw[ql (by omega)]
   grind
  ·rw[<-CE c (by omega) al,mJ,ql (by omega),ql (by omega),<-s];apply i_
   grind
end
section
section
variable {S a6:Type}(st:a6->S->Option S)(ok:S->Prop)
inductive Norm:Nat->S->S->Prop
 |nil {s:S}:(∀ i,st i s=none)->Norm 0 s s
 |cons {k:Nat} {s s1 t:S} (i:a6):st i s=some s1->Norm k s1 t->Norm (k+1) s t
structure Ae:Prop where
 aA:∀ {i:a6} {s s1:S},ok s->st i s=some s1->ok s1
 HQ:∀ {i j:a6} {s s1 s2:S},ok s->st i s=some s1->st j s=some s2->s1=s2\/∃ Jk,st j s1=some Jk/\st i s2=some Jk
end
section
variable {S a6:Type}{st:a6->S->Option S}{ok:S->Prop}
theorem Norm.after (f:Ae st ok){s t:S}(h:Norm st k s t):∀ {s2:S} {j:a6},ok s->st j s=some s2->∃ b,k=b+1/\Norm st b s2 t:=by
 induction h with
 |nil h=>grind
 | @cons k s s1 t i d p o=>
  intro s2 j a n;rcases f.HQ a d n with e | ⟨q,g,l⟩
  ·grind
  ·obtain⟨b,rfl,c⟩:=o (f.aA a d) g;exact⟨b+1,rfl,.cons i l c⟩
end
def fC (c j:Nat)(F:ay):Option ay:=match F.aF[c]? with
 |none=>none
 |some C=>match C.az[j]?,F.nodes[j]? with
  |some l,some n=>if l.pair.a1.length=0 then none else some {F with nodes:=F.nodes.set j (l.pair.step n).2.1,aF:=F.aF.set c (C.comes j l (l.pair.step n).1 (l.pair.step n).2.2)}
  | _,_=>none
theorem iR {F bE:ay}:fC c j F=some bE↔∃ C l n,F.aF[c]?=some C/\C.az[j]?=some l/\F.nodes[j]?=some n/\l.pair.a1.length≠0/\bE={F with nodes:=F.nodes.set j (l.pair.step n).2.1,aF:=F.aF.set c (C.comes j l (l.pair.step n).1 (l.pair.step n).2.2)}:=by
 unfold fC
 grind
theorem v3 {F bE:ay}(h:fC c j F=some bE):F.step ⟨-1,c,j⟩=(true,bE):=by
 obtain⟨C,l,n,b,d,e,al,rfl⟩:=iR.1 h;unfold ay.step;have a:F.cC (c:Int)=some C:=by
  unfold ay.cC
  grind
 grind
structure kS (C:a9):Prop where
 len:∀ (i:Nat) (l:ct),C.az[i]?=some l->l.bG.length=l.pair.a1.length
 apart:∀ (i j:Nat) (l l':ct),i≠j->C.az[i]?=some l->C.az[j]?=some l'->∀ k ∈ l.bG,k ∉ l'.bG
theorem k8 {C:a9}{l:ct}{p:cH}{d:Option cN}(h:i≠j):(C.comes j l p d).az[i]?=C.az[i]?:=by cases d<;>simp[a9.comes,jN (λe=>h e.symm)]
theorem Mn {C:a9}{l l':ct}{p p':cH}{d a:Option cN}(h:i≠j)(b:d.isSome->a.isSome->l.bG.headD 0≠l'.bG.headD 0):(C.comes i l p d).comes j l' p' a=(C.comes j l' p' a).comes i l p d:=by
 cases d with
 |none=>cases a with
  |none=>grind[a9.comes,List.set_comm]
  |some y=>grind[a9.comes,List.set_comm]
 |some x=>cases a with
  |none=>grind[a9.comes,List.set_comm]
  |some y=>
   have c:=b rfl rfl;unfold a9.comes;simp only[Zz _ _ h];cases e:C.batch with
   |none=>rfl
   |some ds=>
    grind[List.set_comm]
theorem S_ (p:cH)(n:aD):((p.step n).2.2=none/\(p.step n).1.a1=p.a1)\/(∃ d,(p.step n).2.2=some d/\(p.step n).1.a1=p.a1.tail):=by
 grind[cH.step,cH.done]
theorem Mo {C:a9}{l:ct}{n:aD}(a:C.az[j]?=some l):∃ l',(C.comes j l (l.pair.step n).1 (l.pair.step n).2.2).az[j]?=some l'/\((l'.bG=l.bG/\l'.pair.a1=l.pair.a1)\/(l'.bG=l.bG.tail/\l'.pair.a1=l.pair.a1.tail)):=by
 grind[cS,S_,a9.comes,List.getElem?_set_self]
theorem kS.comes {C:a9}{j:Nat}{l:ct}{n:aD}(h:kS C)(p:C.az[j]?=some l):kS (C.comes j l (l.pair.step n).1 (l.pair.step n).2.2):=by
 obtain⟨l',f,t⟩:=Mo (n:=n) p;have d:∀ k ∈ l'.bG,k ∈ l.bG:=λk o=>by
  grind[List.mem_of_mem_tail]
 refine⟨λi li b=>?_,λi q li g c b a k o=>?_⟩
 ·by_cases e:i=j
  ·subst e;rw[f]at b;cases b;have hlen:=h.len i l p
   grind
  ·rw[k8 e]at b;exact h.len i li b
 ·by_cases e:i=j
  ·subst e;rw[f]at b;cases b;rw[k8 (λe=>c e.symm)]at a;exact h.apart i q l g c p a k (d k o)
  ·rw[k8 e]at b;by_cases s:q=j
   ·subst s;rw[f]at a;cases a;exactλr=>h.apart i q li l c b p k o (d k r)
   ·rw[k8 s]at a;exact h.apart i q li g c b a k o
def Gm (c:Nat)(F:ay):Prop:=∀ C,F.aF[c]?=some C->kS C
theorem DE (c:Nat):Ae (fC c) (Gm c):=by
 refine⟨λ{j F s} f h=>?_,λ{i j F s A} f t u=>?_⟩
 ·obtain⟨C,l,n,g,o,w,al,rfl⟩:=iR.1 h;intro C' a;have b:=cS g;simp only[kX b]at a;cases a;exact(f C g).comes o
 ·by_cases e:i=j
  ·grind
  ·right;obtain ⟨C,l,n,g,o,w,al,rfl⟩:=iR.1 t;obtain ⟨C',l',n',a,k,z,q,rfl⟩:=iR.1 u;rw [g] at a;cases a;have b:=cS g;have d:=f C g;have hlen:=d.len i l o;have p:=d.len j l' k;have B:l.bG.headD 0≠l'.bG.headD 0:=by
    cases D:l.bG with
    |nil=>grind
    |cons x xs=>cases E:l'.bG with
     |nil=>grind
     |cons y ys=>intro r;have r:x=y:=r;exact d.apart i j l l' e o k x (by grind) (by grind)
   refine⟨_,iR.2 ⟨_,l',n',kX b,by grind[k8],by grind,q,rfl⟩,iR.2 ⟨_,l,n,kX b,by grind[k8],by grind,al,?_⟩⟩
   grind[List.set_set,List.set_comm,Mn]
end
section
theorem pd {x:fb}{i:Nat}:∀ {ls:List ct} {j:Nat},x ∈ kz i j ls↔∃ q l,ls[q]?=some l/\0<l.pair.a1.length/\x=⟨-1,i,(j+q:Nat)⟩
 | [],j=>by simp[kz]
 |l::ls,j=>by
  unfold kz;rw[i',pd (ls:=ls) (j:=j+1)];constructor
  ·rintro(h | ⟨q,l',b,a,c⟩)
   ·split at h
    ·rename_i al;simp at h;exact⟨0,l,rfl,al,by grind⟩
    grind
   ·exact⟨q+1,l',by grind,a,by grind⟩
  grind
theorem pe {x:fb}:∀ {cs:List a9} {i:Nat},x ∈ hp i cs↔∃ q C,cs[q]?=some C/\x ∈ kz (i+q) 0 C.az
 | [],i=>by simp[hp]
 |C::cs,i=>by
  unfold hp;rw[i',pe (cs:=cs) (i:=i+1)];constructor
  ·rintro(h | ⟨q,C',a,b⟩)
   ·exact⟨0,C,rfl,h⟩
   ·exact⟨q+1,C',by simpa using a,by rw[show i+(q+1)=i+1+q by omega];exact b⟩
  ·rintro⟨q,C',a,b⟩;cases q with
   |zero=>left;simp at a;subst a;exact b
   |succ q=>exact .inr ⟨q,C',by simpa using a,by rw[show i+1+q=i+(q+1) by omega];exact b⟩
structure g9 (c:Nat)(F:ay):Prop where
 fY:F.bZ=[]
 idle:∀ (i:Nat) (C:a9),i≠c->F.aF[i]?=some C->∀ (j:Nat) (l:ct),C.az[j]?=some l->l.pair.a1=[]
 apart:Gm c F
 az:∀ C,F.aF[c]?=some C->C.az.length<=F.nodes.length
theorem g9.choice {F:ay}(h:g9 c F){x:fb}(a:x ∈ F.dd):∃ (j:Nat) (bE:ay),x=⟨-1,c,j⟩/\fC c j F=some bE:=by
 unfold ay.dd at a;rw[h.fY]at a;rcases i'.1 a with a | a
 ·obtain⟨q,C,b,a⟩:=pe.1 a;obtain⟨j,l,d,al,rfl⟩:=pd.1 a;rw[iZ]at *;by_cases e:q=c
  ·subst e;have f:=cS d;have hlen:=h.az C b;exact⟨j,_,by grind,iR.2 ⟨C,l,F.nodes[j],b,d,b2 (by omega),by omega,rfl⟩⟩
  ·rw[h.idle q C e b j l d]at al
   grind
 grind[kA]
theorem Cx {F bE:ay}(h:fC c j F=some bE):(⟨-1,c,j⟩:fb) ∈ F.dd:=by
 grind[iR,ay.dd,pe,pd]
theorem g9.e6 {c:Nat}{F:ay}(h:g9 c F)(sch:a7)(n:Nat):(e6 F sch n=(false,F)/\∀ j,fC c j F=none)\/∃ j bE,fC c j F=some bE/\e6 F sch n=(true,bE):=by
 unfold Go.Proofs.YtmkljjbioomepaaGreat.e6;cases f:F.dd[jM F sch n]? with
 |some x=>
  obtain⟨j,bE,rfl,d⟩:=h.choice (b9 f)
  grind[v3]
 |none=>
  refine .inl ⟨rfl,λj=>?_⟩
  cases d:fC c j F with
  |none=>rfl
  |some bE=>
   have hm:=Cx d;have a:0<F.dd.length:=List.length_pos_of_mem hm;have e:jM F sch n<F.dd.length:=by
    unfold jM;split
    ·have g:=uv (sch.getD n 0) (b:=(F.dd.length:Int)) (by omega);have i:=uu (sch.getD n 0) (b:=(F.dd.length:Int)) (by omega);omega
    grind
   grind
end
section
def Below (C:a9)(k:Nat):Prop:=∀ (i:Nat) (l:ct),C.az[i]?=some l->∀ q ∈ l.bG,q<k
theorem vN {C:a9}{v:bc}{l:ct}(h:(C.fe k v).az[i]?=some l):∃ a,C.az[i]?=some a/\((l.bG=a.bG/\l.pair.a1=a.pair.a1/\v.node.toNat≠i)\/(l.bG=a.bG++[k]/\l.pair.a1=a.pair.a1++[v]/\v.node.toNat=i)):=by
 grind[a9.fe]
theorem kS.fe {C:a9}{k:Nat}{v:bc}(h:kS C)(n:Below C k):kS (C.fe k v)/\Below (C.fe k v) (k+1):=by
 refine⟨⟨λi l f=>?_,λi j l l' s f r q a b=>?_⟩,λi l f q a=>?_⟩
 ·obtain⟨e,d,o⟩:=vN f;have hlen:=h.len i e d
  grind
 ·obtain⟨e,d,o⟩:=vN f;obtain⟨u,t,p⟩:=vN r;have x:=h.apart i j e u s d t;rcases o with⟨c,_,w⟩ | ⟨c,_,w⟩<;>rcases p with⟨f1,_,f3⟩ | ⟨f1,_,f3⟩
  ·grind
  ·rw[c]at a;rw[f1]at b;rcases i'.1 b with g | g
   ·grind
   ·simp at g;have:=n i e d q a;omega
  ·rw[c]at a;rw[f1]at b;rcases i'.1 a with g | g
   ·grind
   ·simp at g;have:=n j u t q b;omega
  grind
 ·obtain⟨e,d,o⟩:=vN f;rcases o with⟨c,_,_⟩ | ⟨c,_,_⟩
  ·rw[c]at a;have:=n i e d q a;omega
  ·rw[c]at a;rcases i'.1 a with g | g
   ·have:=n i e d q g;omega
   grind
theorem kS.fB:∀ (vs:a_) {C:a9} {k:Nat},kS C->Below C k->kS (C.fB k vs)
 | [],C,k,h,a=>h
 |v::vs,C,k,h,a=>by obtain⟨b,c⟩:=h.fe (v:=v) a;exact kS.fB vs b c
theorem EY {C C':a9}(h:kS C)(e:C'.az=C.az):kS C':=⟨by rw[e];exact h.len,by rw[e];exact h.apart⟩
theorem Pn:∀ {ls:List ct} {j:Nat} {l:ct},ls[j]?=some l->l.pair.a1≠[]->0<gQ ls:=by
 grind[Nat.eq_zero_or_pos,gQ,v_,List.mem_of_getElem?]
theorem v' {cv:Conv}{F:ay}{t:bK cv}(h:0<F.waiting t.aL):br F t=(F,t):=by
 unfold br
 grind
theorem sU {F:ay}(b:cr F){bE:ay}(h:fC c j F=some bE):0<F.waiting c:=by
 obtain⟨C,l,n,a,d,g,al,rfl⟩:=iR.1 h;have hw:=(b.cg.ok.aL c C a).waiting;have i:=Pn d (λe=>al (by grind));unfold ay.waiting;have f:F.cC (c:Int)=some C:=by
  unfold ay.cC
  grind
 grind
end
section
theorem g1 (F:ay)(c:Nat):F.cC (c:Int)=F.aF[c]?:=by
 unfold ay.cC
 grind
theorem JS:∀ (vs:a_) (C:a9) (k:Nat),(C.fB k vs).az.length=C.az.length
 | [],C,k=>rfl
 |v::vs,C,k=>by rw[JY,JS vs];simp[a9.fe]
theorem g9.eo {c:Nat}{F:ay}(h:g9 c F){C':a9}(d:kS C')(f:C'.az.length<=F.nodes.length):g9 c (F.eo (c:Int) C'):=by
 unfold ay.eo;rw[hD];refine⟨h.fY,λi C b a=>?_,λC a=>?_,λC a=>?_⟩
 ·simp only[jN (λe=>b e.symm)]at a;exact h.idle i C b a
 ·grind
 grind
def u0 (c:Nat)(F:ay):Prop:=∀ C,F.aF[c]?=some C->∀ l ∈ C.az,l.pair.a1=[]
theorem g9.post {c:Nat}{F:ay}(h:g9 c F)(j:u0 c F)(vs:a_):g9 c (F.post (c:Int) vs).2:=by
 unfold ay.post;rw[g1];cases d:F.aF[c]? with
 |none=>exact h
 |some C=>
  simp only;split
  ·exact h
  split
  ·exact h
  split
  ·exact h
  split
  ·exact h
  split
  ·exact h
  have a:=h.apart C d;have e:Below C 0:=λi l f q k=>by
   have g:=a.len i l f;rw[j C d l (b9 f)]at g
   grind
  have b:=kS.fB vs a e;exact h.eo (C':=C.j4 vs) (EY b rfl) (by show(C.fB 0 vs).az.length<=_;rw[JS];exact h.az C d)
theorem g9.take {c:Nat}{F:ay}(h:g9 c F):g9 c (F.take (c:Int)).2/\(u0 c F->u0 c (F.take (c:Int)).2):=by
 unfold ay.take;rw[g1];cases b:F.aF[c]? with
 |none=>grind
 |some C=>
  simp only;split
  ·grind
  cases e:C.batch with
  |none=>grind
  |some ds=>
   simp only;split
   ·grind
   refine⟨h.eo (C':={C with batch:=none}) (EY (h.apart C b) rfl) (h.az C b),λd C' a=>?_⟩;unfold ay.eo at a;rw[hD]at a;simp only[kX (cS b)]at a;cases a;exact d C b
theorem Po {F:ay}(b:cr F)(h:¬ 0<F.waiting (c:Int)):u0 c F:=by
 intro C a l d;have hw:=(b.cg.ok.aL c C a).waiting
 grind[ay.waiting,g1,v_]
theorem g9.tail {cv:Conv}{F:ay}{t:bK cv}(h:g9 c F)(a:u0 c F)(b:t.aL=(c:Int)):g9 c (gG F t).1:=by
 unfold gG;rw[b];split
 ·exact h
 split
 ·exact h
 split
 ·exact h.post a _
 ·exact h.post a _
theorem g9.br {cv:Conv}{c:Nat}{F:ay}{t:bK cv}(h:g9 c F)(b:cr F)(a:t.aL=(c:Int)):g9 c (br F t).1:=by
 unfold Go.Proofs.YtmkljjbioomepaaGreat.br;rw[a];split
 ·exact h
 ·rename_i d;have f:=Po b (c:=c) λe=>d (.inr (.inr e))
  refine g9.tail h.take.1 (h.take.2 f) ?_;cases(F.take (c:Int)).1<;>exact a
theorem Lv {cv:Conv}{F:ay}{t:bK cv}:(br F t).2.aL=t.aL:=by
 unfold Go.Proofs.YtmkljjbioomepaaGreat.br;split
 ·rfl
 ·unfold gG;split
  ·cases(F.take t.aL).1<;>rfl
  split
  ·cases(F.take t.aL).1<;>rfl
  split
  ·cases(F.take t.aL).1<;>rfl
  ·cases(F.take t.aL).1<;>rfl
theorem g9.step {c j:Nat}{F bE:ay}(h:g9 c F)(g:fC c j F=some bE):g9 c bE:=by
 have b:=(DE c).aA h.apart g;obtain⟨C,l,n,d,o,p,al,rfl⟩:=iR.1 g;refine⟨h.fY,λi C' f a=>?_,b,λC' a=>?_⟩
 ·simp only[jN (λe=>f e.symm)]at a;exact h.idle i C' f a
 ·simp only[kX (cS d)]at a;cases a;have k:=h.az C d;simp only[pN];cases(l.pair.step n).2.2<;>simp[a9.comes]<;>exact k
end
section
section
variable {cv:Conv}
def jn (c j:Nat)(s:ay×bK cv):Option (ay×bK cv):=(fC c j s.1).map λbE=>br bE s.2
structure kv (c:Nat)(s:ay×bK cv):Prop where
 ev:cr s.1
 tP:g9 c s.1
 cC:s.2.aL=(c:Int)
theorem cr.fC {F bE:ay}(h:cr F)(b:fC c j F=some bE):cr bE:=by have a:=h.step ⟨-1,c,j⟩;rw[v3 b]at a;exact a
theorem nm {s a:ay×bK cv}:jn c j s=some a↔∃ bE,fC c j s.1=some bE/\a=br bE s.2:=by
 unfold jn;cases h:fC c j s.1 with
 |none=>simp
 |some bE=>grind
theorem kv.br {c:Nat}{F:ay}{t:bK cv}(h:kv c (F,t)):kv c (br F t):=
 ⟨h.ev.br t,h.tP.br h.ev h.cC,by rw[Lv];exact h.cC⟩
theorem kv.fC {c j:Nat}{F bE:ay}{t:bK cv}(h:kv c (F,t))(a:fC c j F=some bE):kv c (bE,t):=⟨h.ev.fC a,h.tP.step a,h.cC⟩
theorem DF (c:Nat):Ae (jn (cv:=cv) c) (kv c):=by
 refine⟨λ{i s s1} a h=>?_,λ{i j s s1 s2} a n o=>?_⟩
 ·obtain⟨F,t⟩:=s;obtain⟨bE,r,rfl⟩:=nm.1 h;exact(a.fC r).br
 ·obtain⟨F,t⟩:=s;obtain⟨f,b,rfl⟩:=nm.1 n;obtain⟨g,d,rfl⟩:=nm.1 o;rcases(DE c).HQ a.tP.apart b d with e | ⟨l,p,q⟩
  ·grind
  ·have k:t.aL=(c:Int):=a.cC;have w1:br f t=(f,t):=v' (by rw[k];exact sU (a.fC b).ev p);have u:br g t=(g,t):=v' (by rw[k];exact sU (a.fC d).ev q);refine .inr ⟨br l t,?_,?_⟩
   ·grind[nm]
   grind[nm]
theorem NC (F:ay)(t:bK cv):turns F [t]=((br F t).1,[(br F t).2]):=rfl
theorem Km {c:Nat}(cs sch:a7):∀ (f n:Nat) {F:ay} {t:bK cv} {k:Nat} {e:ay×bK cv},kv c (F,t)->Norm (jn c) k (br F t) e->k<f->eG cs sch [] f n F [t]=(e.1,[e.2])
 | 0,n,F,t,k,e,b,g,p=>by omega
 |f+1,n,F,t,k,e,b,g,p=>by
  have a:=b.br;unfold eG;have o:je F cs n []=F:=rfl;rw[o,NC];rcases a.tP.e6 sch n with⟨d,l⟩ | ⟨j,bE,d,l⟩
  ·rw[d,aQ (by simp)];cases g with
   |nil _=>rfl
   |cons i q _=>
    grind[nm]
  ·rw[l,bh rfl];obtain⟨r,rfl,h⟩:=g.after (DF c) a (nm.2 ⟨bE,d,rfl⟩);exact Km cs sch f (n+1) (kv.fC a d) h (by omega)
theorem Mp {F:ay}{t:bK cv}(a:kv c (F,t)){e:ay×bK cv}(d:Norm (jn c) k (br F t) e)(sch:a7){most:Nat}(b:k<most):dP F [t] sch [] most=((br e.1 e.2).1,[(br e.1 e.2).2]):=by unfold dP;rw[Km _ sch most 0 a d b];rfl
end
end
section
def fD (bg:Nat->Option cN)(q:Nat)(d:cN):Nat->Option cN:=λk=>if k=q then some d else bg k
theorem tY (bg:Nat->Option cN)(q:Nat)(d:cN):fD bg q d q=some d:=bh rfl
theorem sE {bg:Nat->Option cN}{d:cN}(h:k≠q):fD bg q d k=bg k:=aQ h
structure AQ (vs:a_)(bg:Nat->Option cN)(j:Nat)(l:ct):Prop where
 len:l.bG.length=l.pair.a1.length
 xH:l.bG.Pairwise (·<·)
 at_:∀ (t q:Nat),l.bG[t]?=some q->∃ v,vs[q]?=some v/\l.pair.a1[t]?=some v/\v.node.toNat=j/\bg q=none
structure g8 (C:a9)(vs:a_)(bg:Nat->Option cN):Prop where
 live:C.alive=true
 ds:∃ ds,C.batch=some ds/\ds.length=vs.length/\∀ q d,bg q=some d->ds[q]?=some d
 lane:∀ (j:Nat) (l:ct),C.az[j]?=some l->AQ vs bg j l
 left:∀ q,q<vs.length->bg q=none->∃ (j:Nat) (l:ct),C.az[j]?=some l/\q ∈ l.bG
theorem AQ.head {vs:a_}{bg:Nat->Option cN}{l:ct}(h:AQ vs bg j l){x:bc}{xs:a_}(al:l.pair.a1=x::xs):∃ q cx,l.bG=q::cx/\vs[q]?=some x/\x.node.toNat=j/\bg q=none:=by
 have a:=h.len;rw[al]at a;cases f:l.bG with
 |nil=>grind
 |cons q cx=>
  obtain⟨v,b,c,d,e⟩:=h.at_ 0 q (by grind)
  grind
theorem g8.more {C:a9}{vs:a_}{bg:Nat->Option cN}(h:g8 C vs bg){l:ct}(c:C.az[j]?=some l){p:cH}(g:p.a1=l.pair.a1):g8 (C.comes j l p none) vs bg:=by
 have d:=cS c;refine⟨h.live,h.ds,λi l' a=>?_,λq k f=>?_⟩
 ·by_cases e:i=j
  ·subst e;simp [a9.comes,d] at a;subst a;have b:=h.lane _ l c;exact ⟨by show l.bG.length=p.a1.length;rw [g];exact b.len,b.xH,λt q n=>by
    obtain⟨v,o,r,s,u⟩:=b.at_ t q n
    grind⟩
  ·rw[k8 e]at a;exact h.lane i l' a
 ·obtain⟨i,l',a,hm⟩:=h.left q k f;by_cases e:i=j
  ·subst e;rw[c]at a;cases a;exact⟨i,{l with pair:=p},by grind[a9.comes],hm⟩
  ·exact⟨i,l',by grind[k8],hm⟩
theorem g8.done {C:a9}{vs:a_}{bg:Nat->Option cN}(h:g8 C vs bg){l:ct}(n:C.az[j]?=some l){x:bc}{xs:a_}(al:l.pair.a1=x::xs){p:cH}(K:p.a1=xs){cx:c6}(z:l.bG=q::cx)(d:cN) :
  g8 (C.comes j l p (some d)) vs (fD bg q d):=by
 have o:=cS n;have g:=h.lane j l n;obtain⟨ds,J,hlen,F⟩:=h.ds;have H:vs[q]?=some x/\x.node.toNat=j:=by
  obtain⟨q',I,e,s,u,_⟩:=g.head al
  grind
 have G:q<vs.length:=cS H.1;have a:=g.xH;rw[z,Zx]at a;refine⟨h.live,⟨ds.set q d,?_,by grind,λk e y=>?_⟩,λi l' c=>?_,λk y w=>?_⟩
 ·grind[a9.comes]
 ·grind[tY,List.getElem?_set_self,sE,List.getElem?_set_ne]
 ·by_cases e:i=j
  ·subst e;simp[a9.comes,o]at c;subst c;refine⟨?_,?_,λt k A=>?_⟩
   ·show l.bG.tail.length=p.a1.length;have:=g.len
    grind
   ·grind
   ·have r:cx[t]?=some k:=by grind
    obtain⟨v,s,u,D,E⟩:=g.at_ (t+1) k (by grind);have f:k≠q:=by have:=a.1 k (b9 r);omega
    grind[sE]
  ·rw[k8 e]at c;have b:=h.lane i l' c;refine⟨b.len,b.xH,λt k A=>?_⟩;obtain⟨v,s,u,D,E⟩:=b.at_ t k A
   grind[sE]
 ·have f:k≠q:=λe=>by grind[tY]
  rw[sE f]at w;obtain⟨i,l',c,hm⟩:=h.left k y w;by_cases e:i=j
  ·subst e;rw[n]at c;cases c;rw[z]at hm;rcases f0.1 hm with B | B
   ·grind
   ·exact⟨i,⟨p,l.bG.tail⟩,by grind[a9.comes],by grind⟩
  ·exact⟨i,l',by grind[k8],hm⟩
theorem g8.all {C:a9}{vs:a_}{bg:Nat->Option cN}(h:g8 C vs bg)(he:∀ (j:Nat) (l:ct),C.az[j]?=some l->l.pair.a1=[]):∃ ds,C.batch=some ds/\ds.length=vs.length/\(∀ q d,bg q=some d->ds[q]?=some d)/\∀ q,q<vs.length->∃ d,bg q=some d:=by
 obtain⟨ds,a,b,c⟩:=h.ds;refine⟨ds,a,b,c,λq g=>?_⟩;cases e:bg q with
 |some d=>grind
 |none=>
  obtain⟨j,l,f,hm⟩:=h.left q g e;have:=(h.lane j l f).len
  grind
structure oZ (vs:a_)(k:Nat)(C:a9):Prop where
 lane:∀ (j:Nat) (l:ct),C.az[j]?=some l->l.bG.length=l.pair.a1.length/\l.bG.Pairwise (·<·)/\∀ (t q:Nat),l.bG[t]?=some q->q<k/\∃ v,vs[q]?=some v/\l.pair.a1[t]?=some v/\v.node.toNat=j
 left:∀ q,q<k->∃ (j:Nat) (l:ct),C.az[j]?=some l/\q ∈ l.bG
theorem oZ.one {vs:a_}{C:a9}(h:oZ vs k C){v:bc}(al:vs[k]?=some v)(n:v.node.toNat<C.az.length):oZ vs (k+1) (C.fe k v):=by
 refine⟨λj l d=>?_,λq w=>?_⟩
 ·obtain⟨o,f,g⟩:=vN d;obtain⟨r,s,u⟩:=h.lane j o f;rcases g with⟨b,c,_⟩ | ⟨b,c,p⟩
  ·grind
  ·rw[b,c];refine⟨by grind,?_,λt q x=>?_⟩
   ·grind[List.mem_iff_getElem?]
   grind
 ·have a:∀ i,(C.fe k v).az[i]?=(C.az[i]?).map λl=>if v.node.toNat=i then (⟨{ l.pair with a1:=l.pair.a1++[v] },l.bG++[k]⟩:ct) else l:=λi=>by
   grind[a9.fe]
  by_cases e:q=k
  ·subst e;refine⟨v.node.toNat,_,by rw[a,b2 n];rfl,?_⟩;simp
  ·obtain⟨j,l,d,hm⟩:=h.left q (by omega)
   grind
theorem oZ.from {vs:a_}:∀ (us:a_) {k:Nat} {C:a9},oZ vs k C->(∀ i,us[i]?=vs[k+i]?)->(∀ v ∈ us,v.node.toNat<C.az.length)->oZ vs (k+us.length) (C.fB k us)
 | [],k,C,h,hu,a=>h
 |u::us,k,C,h,hu,a=>by
  have b:=h.one (v:=u) (by have:=hu 0;grind) (a u fR);have d:(C.fe k u).az.length=C.az.length:=by simp[a9.fe]
  have c:=oZ.from us b (λi=>by have:=hu (i+1);rw[zt]at this;rw[this];congr 1;omega) (λv al=>by rw[d];exact a v (fG _ al));rw[h3,show k+(us.length+1)=k+1+us.length by omega];exact c
theorem g8.post {C:a9}{vs:a_}(n:C.alive=true)(he:∀ (j:Nat) (l:ct),C.az[j]?=some l->l.pair.a1=[]/\l.bG=[])(o:∀ v ∈ vs,v.node.toNat<C.az.length):g8 (C.j4 vs) vs λ_=>none:=by
 have g:oZ vs 0 C:=⟨λj l a=>by
  obtain⟨r,s⟩:=he j l a
  simp_all,λq b=>by omega⟩
 have h:=oZ.from vs g (λi=>by grind) o;rw[iZ]at h;refine⟨?_,⟨List.replicate vs.length ⟨0,[]⟩,rfl,by simp,λq d e=>by cases e⟩,λj l a=>?_,λq b _=>h.left q b⟩
 ·have:∀ (us:a_) (D:a9) (k:Nat),(D.fB k us).alive=D.alive:=λus=>by
   induction us with
   |nil=>intro D k;rfl
   |cons v vs p=>intro D k;exact(p (D.fe k v) (k+1)).trans rfl
  exact(this vs C 0).trans n
 ·obtain⟨c,f,u⟩:=h.lane j l a;exact⟨c,f,λt q w=>by grind⟩
end
end Go.Proofs.YtmkljjbioomepaaGreat
