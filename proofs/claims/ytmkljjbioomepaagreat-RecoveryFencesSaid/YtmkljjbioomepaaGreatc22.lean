import Derived.Test.YtmkljjbioomepaaGreatc17
set_option linter.all false
namespace Go.Proofs.YtmkljjbioomepaaGreat
open Go.Proofs.Tryz Go.br
variable {A B L:a5} {C C':bP} {F:aM} {K:(a5)->Prop} {X:bQ} {c:Int} {ds:List aL} {aN i j:Nat} {l:cP} {n:a0} {p:c4} {u bq w:ak} {v x:aP} {dq aw:Nat->Tag}
section
def o_ (v:aP):Prop:=1<=v.v.count
theorem o_.pieces {v:aP} (h:o_ v):0<v.v.pieces.length:=by refine u1.2 (Hk _ _ _ h ?_);unfold o_ at h;omega
structure fH (p:c4):Prop where
 mJ:∀ v ∈ p.ba,o_ v
 idle:p.ba=[]->p.bD=0
 zero:p.bD=0->p.words=[]
 hL:p.hL
theorem fH.done {p:c4} (h:fH p):fH p.done:=by
 refine ⟨λv an=>h.mJ v (s5 an),λ_=>rfl,λ_=>rfl,?_⟩
 intro x xs a;have hm:x ∈ p.ba.tail:=by rw [show p.ba.tail=x::xs from a];exact e_
 exact (h.mJ x (s5 hm)).pieces
theorem fH.step {p:c4} (h:fH p) (n:a0):fH (p.step n).1:=by
 unfold c4.step;split
 ·exact h
 ·rename_i x xs c;dsimp only;split
  ·exact h.done
  ·split
   ·rename_i a;refine ⟨h.mJ,λe=>?_,λe=>by simp at e,?_⟩
    ·rw [c] at e;cases e
    ·intro y ys d;have:x=y:=by have b:p.ba=y::ys:=d;rw [c] at b;exact (List.cons.inj b).1
     subst this;exact a
   ·exact h.done
theorem fH.post (h:fH p) (an:o_ v):fH { p with ba:=p.ba++[v] }:=by
 refine ⟨λx a=>?_,λe=>by simp at e,h.zero,?_⟩
 ·rcases jL.1 a with b | b
  ·exact h.mJ x b
  ·simp at b;rw [b];exact an
 ·intro x xs a;cases c:p.ba with
  |nil=>simp [c] at a;rw [<-a.1];show p.bD<_;rw [h.idle c];exact an.pieces
  |cons y ys=>simp [c] at a;rw [<-a.1];exact h.hL y ys c
theorem BX (p:c4) (n:a0):(p.step n).1.a3=p.a3/\(p.step n).1.inc=p.inc/\(p.step n).1.node=p.node:=by
 unfold c4.step;split
 ·exact ⟨rfl,rfl,rfl⟩
 ·dsimp only;split
  ·exact ⟨rfl,rfl,rfl⟩
  ·split<;>exact ⟨rfl,rfl,rfl⟩
theorem Iy (p:c4) (n:a0):((p.step n).2.2=none/\(p.step n).1.ba=p.ba)\/(∃ d,(p.step n).2.2=some d/\(p.step n).1.ba=p.ba.tail/\p.ba≠[]):=by
 unfold c4.step;split
 ·exact .inl ⟨rfl,rfl⟩
 ·rename_i a;dsimp only;split
  ·exact .inr ⟨_,rfl,rfl,by rw [a];simp⟩
  ·split
   ·exact .inl ⟨rfl,rfl⟩
   ·exact .inr ⟨_,rfl,rfl,by rw [a];simp⟩
theorem HL (h:p.refusal x n=0):n.down=false/\x.v.valid 5 (n.words.length / 8:Nat)=0:=by
 unfold c4.refusal at h;split at h
 ·omega
 ·rename_i ar;split at h
  ·omega
  ·rename_i an;exact ⟨by simpa using ar,by omega⟩
theorem BY (an:x.v.valid 5 (n.words.length / 8:Nat)=0) {pc:Int×Int} (c:pc ∈ x.v.pieces):(exec x pc n).1.words.length=n.words.length:=by
 obtain ⟨d,a⟩:=xw an;obtain ⟨i1,i2,i3,i4,i5,i6,i7,i8,i9,i10,i11⟩:=pk a;unfold aG.dd at i10;have b:=z5 _ _ _ (by omega) pc c;unfold exec;split
 ·rfl
 ·split
  ·simp only [a0.write,dH,iG,lZ];omega
  ·split
   ·simp only [a0.gh];split<;>simp
   ·split
    ·simp [a0.add]
    ·rfl
theorem Cn (h:fH p) (n:a0):(p.step n).2.1.words.length=n.words.length:=by
 unfold c4.step;split
 ·rfl
 ·rename_i x xs b;dsimp only;split
  ·rfl
  ·rename_i c;have an:=(HL (p:=p) (x:=x) (n:=n) (by omega)).2;have a:=h.hL x xs b;have hm:x.v.pieces.getD p.bD (0,0) ∈ x.v.pieces:=by rw [dD,bF a];exact kb _
   split
   ·exact BY an hm
   ·exact BY an hm
theorem xW:∀ {ls:List cP} {j:Nat} {l l':cP},ls[j]?=some l->gZ (ls.set j l')+l.pair.ba.length=gZ ls+l'.pair.ba.length
 | [],j,l,l',h=>by simp at h
 |a::ls,0,l,l',h=>by simp at h;subst h;simp [gZ];omega
 |a::ls,j+1,l,l',h=>by have:=xW (ls:=ls) (j:=j) (l:=l) (l':=l') (by simpa using h);simp [gZ] at this ⊢;omega
theorem AB:∀ {ls:List cP},gZ ls=0->∀ l ∈ ls,l.pair.ba=[]
 | [],_,l,h=>by simp at h
 |a::ls,b,l,h=>by
  simp [gZ] at b;rcases e9.1 h with rfl | h
  ·exact b.1
  ·exact AB (by simp [gZ];exact b.2) l h
structure Good (F:aM):Prop where
 ok:nU F
 dj:∀ C ∈ F.aX,∀ l ∈ C.aD,fH l.pair
 or:∀ p ∈ F.bV,fH p
theorem aM.oc (h:F.dj c=some C):0<=c/\F.aX[c.toNat]?=some C:=by
 unfold aM.dj at h;split at h
 ·cases h
 ·exact ⟨by omega,h⟩
theorem Good.fp (h:Good F) (f:F.aX[i]?=some C) (b:td F.nodes.length i C') (c:∀ l ∈ C'.aD,fH l.pair):Good { F with aX:=F.aX.set i C' }:=by
 refine ⟨⟨h.ok.lines,h.ok.nodes,h.ok.words,by simpa using h.ok.aX,λk D a=>?_,h.ok.eC⟩,λD a=>?_,h.or⟩
 ·simp only [ik] at a;split at a
  ·split at a
   ·rename_i e _;cases a;rw [<-e];exact b
   ·cases a
  ·exact h.ok.a3 k D a
 ·rcases nQ a with d | rfl
  ·exact h.dj D d
  ·exact c
theorem Good.nx (h:Good F) (i:Nat) {n':a0} (b:n'.words.length=F.lines * 8):Good { F with nodes:=F.nodes.set i n' }:=by
 refine ⟨⟨h.ok.lines,by simpa using h.ok.nodes,λn hm=>?_,h.ok.aX,by simpa using h.ok.a3,by simpa using h.ok.eC⟩,h.dj,h.or⟩;rcases nQ hm with a | rfl
 ·exact h.ok.words n a
 ·exact b
theorem Good.take {F:aM} (h:Good F) (c:Int):Good (F.take c).2:=by
 unfold aM.take;cases p:F.dj c with
 |none=>exact h
 |some C=>
  obtain ⟨r,d⟩:=aM.oc p;dsimp only;split
  ·exact h
  ·cases s:C.batch with
   |none=>exact h
   |some ds=>
    dsimp only;split
    ·exact h
    ·rename_i hw;have a:=h.ok.a3 _ _ d;have q:gZ C.aD=0:=by have:=a.waiting;omega
     refine h.fp d ⟨a.inc,a.aD,λj l i=>?_,a.waiting,?_,λn e=>by cases e⟩ (h.dj C (cg d))
     ·have b:=a.lane j l i;have f:=AB q l (cg i);refine ⟨b.a3,b.inc,b.node,b.bT,λk g=>?_,b.hL⟩;have:=b.bT;rw [f] at this;have:l.bT=[]:=fB this;rw [this] at g;cases g
     ·have:=a.waiting;have o:C.waiting=0:=by omega
      rw [show ({ C with batch:=none }:bP).waiting=C.waiting from rfl,o];exact ⟨uU _,by simp⟩
theorem Lf (h:Good F) (a:(F.take c).1=some ds):ds.length<=1024:=by
 unfold aM.take at a;cases d:F.dj c with
 |none=>rw [d] at a;cases a
 |some C=>
  rw [d] at a;dsimp only at a;obtain ⟨f,e⟩:=aM.oc d;split at a
  ·cases a
  ·cases b:C.batch with
   |none=>rw [b] at a;cases a
   |some es=>
    rw [b] at a;dsimp only at a;split at a
    ·cases a
    ·cases a;have:=(h.ok.a3 _ _ e).batch.2;rw [b] at this;exact this
structure n5 (n i:Nat) (inc:Int) (k:Nat) (ls:List cP):Prop where
 len:ls.length=n
 lane:∀ (j:Nat) (l:cP),ls[j]?=some l->yS i inc j k l/\fH l.pair
 gZ:gZ ls=k
def sI (l:cP) (k:Nat) (v:aP):cP:=⟨{ l.pair with ba:=l.pair.ba++[v] },l.bT++[k]⟩
theorem Vc {k:Nat} (c:C.aD[v.node.toNat]?=some l):(C.gk k v).aD=C.aD.set v.node.toNat (sI l k v):=by
 show C.aD.modify _ _=_;apply j';intro j;obtain ⟨a,b⟩:=lq.1 c;rw [sY,ik];by_cases e:v.node.toNat=j
 ·subst e;simp [a,b,sI]
 ·simp [e]
theorem yA {α:Type} {l:List α} {x y:α} (a:i<l.length) (h:(l.set i x)[j]?=some y):(i=j/\y=x)\/(i≠j/\l[j]?=some y):=by
 by_cases e:i=j
 ·subst e;rw [jK a] at h;exact .inl ⟨rfl,(nN h).symm⟩
 ·rw [h6 e] at h;exact .inr ⟨e,h⟩
theorem n5.post {n i:Nat} {inc:Int} {k:Nat} {C:bP} (h:n5 n i inc k C.aD) {v:aP} (p:0<=v.node) (r:v.node<n) (an:o_ v):n5 n i inc (k+1) (C.gk k v).aD:=by
 have b:v.node.toNat<C.aD.length:=by rw [h.len];omega
 have f:C.aD[v.node.toNat]?=some C.aD[v.node.toNat]:=bF b;rw [Vc f];generalize C.aD[v.node.toNat]=cU at f;refine ⟨by simpa using h.len,λj l g=>?_,?_⟩
 ·rcases yA b g with ⟨e,rfl⟩ | ⟨e,g⟩
  ·obtain ⟨a,d⟩:=h.lane _ _ f;refine ⟨⟨a.a3,a.inc,by rw [<-e];exact a.node,by simp [sI,a.bT],λq o=>?_,(d.post an).hL⟩,d.post an⟩;rcases jL.1 o with c | c
   ·have:=a.low q c;omega
   ·simp at c <;> omega
  ·obtain ⟨a,d⟩:=h.lane j l g;exact ⟨⟨a.a3,a.inc,a.node,a.bT,λq o=>by have:=a.low q o;omega,a.hL⟩,d⟩
 ·have:=xW (l':=sI cU k v) f;have s:(sI cU k v).pair.ba.length=cU.pair.ba.length+1:=by simp [sI]
  have c:=h.gZ;omega
theorem n5.FP {n i:Nat} {inc:Int}:∀ (vs:List aP) (k:Nat) (C:bP),n5 n i inc k C.aD->(∀ v ∈ vs,0<=v.node/\v.node<n/\o_ v)->n5 n i inc (k+vs.length) (C.gN k vs).aD
 | [],k,C,h,_=>h
 |v::vs,k,C,h,an=>by
  obtain ⟨a,b,c⟩:=an v e_;have:=n5.FP vs (k+1) (C.gk k v) (h.post a b c) λx d=>an x (fD _ d)
  rw [bP.gN,hh,Nat.add_comm vs.length 1,<-uR];exact this
theorem z4:∀ (vs:List aP) (k:Nat) (C:bP),(C.gN k vs).alive=C.alive/\(C.gN k vs).inc=C.inc
 | [],_,_=>⟨rfl,rfl⟩
 |v::vs,k,C=>by rw [bP.gN];exact z4 vs (k+1) (C.gk k v)
theorem GG {nodes lines:Int}:∀ {vs:List aP},jz nodes lines vs=0->∀ v ∈ vs,v.v.valid nodes lines=0
 | [],_,v,an=>by simp at an
 |x::vs,h,v,an=>by
  unfold jz at h;split at h
  ·rename_i a;exact absurd h a
  ·rename_i a;rcases e9.1 an with rfl | an
   ·omega
   ·exact GG h v an
theorem Good.post {F:aM} (h:Good F) (c:Int) (vs:List aP):Good (F.post c vs).2:=by
 unfold aM.post;cases B:F.dj c with
 |none=>exact h
 |some C=>
  obtain ⟨I,k⟩:=aM.oc B;have e:=h.ok.a3 _ _ k;dsimp only;split
  ·exact h
  rename_i A;split
  ·exact h
  rename_i u;split
  ·exact h
  rename_i G;split
  ·exact h
  rename_i H;split
  ·exact h
  rename_i n;have g:C.batch=none:=by cases z:C.batch with | none=>rfl | some x=>rw [z] at u;simp at u
  have f:C.alive=true:=by simpa using A
  have s:C.waiting=0:=by have:=e.batch.1;rw [g] at this;simpa using this
  have p:gZ C.aD=0:=by rw [<-e.waiting];exact s
  have r:∀ v ∈ vs,0<=v.node/\v.node<F.nodes.length/\o_ v:=by intro v an;obtain ⟨w,y⟩:=xw (GG (Decidable.not_not.1 n) v an);obtain ⟨i1,i2,i3,i4,i5,i6,i7⟩:=pk y;exact ⟨i5,i6,w⟩
  have o:C.aD.length=F.nodes.length:=by rw [e.aD,f];rfl
  have hinv:n5 F.nodes.length c.toNat C.inc 0 C.aD:=by refine ⟨o,λj l d=>?_,p⟩;have b:=e.lane j l d;refine ⟨⟨b.a3,b.inc,b.node,b.bT,λq E=>?_,b.hL⟩,h.dj C (cg k) l (cg d)⟩;have t:=b.low q E;rw [g] at t;simp at t
  have a:=n5.FP vs 0 C hinv r;rw [g3] at a;obtain ⟨s1,s2⟩:=z4 vs 0 C;refine h.fp k ⟨?_,?_,λj l d=>?_,?_,?_,?_⟩ λl d=>?_
  ·show 0<=(C.gN 0 vs).inc/\(C.gN 0 vs).inc<=59;rw [s2];exact e.inc
  ·show (C.gN 0 vs).aD.length=if (C.gN 0 vs).alive then _ else _;rw [s1,f,a.len];rfl
  ·have:=(a.lane j l d).1;show yS c.toNat (C.gN 0 vs).inc j _ l;rw [s2];simpa [bP.kz] using this
  ·show vs.length=gZ (C.gN 0 vs).aD;rw [a.gZ]
  ·show vs.length<=_/\_;simp [bP.kz];omega
  ·intro ds i;simp [bP.kz] at i;rw [<-i];simp;omega
  ·obtain ⟨j,D⟩:=eF.1 d;exact (a.lane j l D).2
theorem td.comes {n i:Nat} {C:bP} (b:td n i C) {j:Nat} {l:cP} (s:C.aD[j]?=some l) (nd:a0) (y:fH l.pair):td n i (C.comes j l (l.pair.step nd).1 (l.pair.step nd).2.2):=by
 have c:=b.lane j l s;have r:=(lq.1 s).1;obtain ⟨s1,s2,u⟩:=BX l.pair nd;have h:=y.step nd;rcases Iy l.pair nd with ⟨t,g⟩ | ⟨d,t,g,w⟩
 ·rw [t];refine ⟨b.inc,?_,λk l' a=>?_,?_,b.batch,b.full⟩
  ·show (C.aD.set j _).length=_;rw [p5];exact b.aD
  ·rcases yA r a with ⟨e,rfl⟩ | ⟨e,a⟩
   ·exact ⟨s1.trans c.a3,s2.trans c.inc,by rw [<-e];exact u.trans c.node,by show l.bT.length=(l.pair.step nd).1.ba.length;rw [c.bT,g],c.low,h.hL⟩
   ·exact b.lane k l' a
  ·have:=xW (l':={ l with pair:=(l.pair.step nd).1 }) s;show C.waiting=gZ (C.aD.set j { l with pair:=(l.pair.step nd).1 });have hw:=b.waiting;have x:({ l with pair:=(l.pair.step nd).1 }:cP).pair.ba.length=l.pair.ba.length:=by show (l.pair.step nd).1.ba.length=_;rw [g]
   omega
 ·rw [t];have z:0<l.pair.ba.length:=u1.2 w;have p:((C.comes j l (l.pair.step nd).1 (some d)).batch.getD []).length=(C.batch.getD []).length:=by cases o:C.batch<;>simp [bP.comes,o]
  refine ⟨b.inc,?_,λk l' a=>?_,?_,?_,?_⟩
  ·show (C.aD.set j _).length=_;rw [p5];exact b.aD
  ·rw [p];rcases yA r a with ⟨e,rfl⟩ | ⟨e,a⟩
   ·refine ⟨s1.trans c.a3,s2.trans c.inc,by rw [<-e];exact u.trans c.node,?_,λq A=>c.low q (s5 A),h.hL⟩;show l.bT.tail.length=(l.pair.step nd).1.ba.length;rw [g,ri,ri,c.bT]
   ·exact b.lane k l' a
  ·have:=xW (l':=⟨(l.pair.step nd).1,l.bT.tail⟩) s;show C.waiting - 1=gZ (C.aD.set j ⟨(l.pair.step nd).1,l.bT.tail⟩);have hw:=b.waiting;have x:(⟨(l.pair.step nd).1,l.bT.tail⟩:cP).pair.ba.length=l.pair.ba.length - 1:=by show (l.pair.step nd).1.ba.length=_;rw [g,ri]
   omega
  ·rw [p];have:=b.batch;show C.waiting - 1<=_/\_;omega
  ·intro ds f;cases o:C.batch with
   |none=>simp [bP.comes,o] at f
   |some es=>simp [bP.comes,o] at f;rw [<-f,p5];exact b.full es o
theorem Iz {nd:a0} (b:fH l.pair) (c:∀ l ∈ C.aD,fH l.pair):∀ l' ∈ (C.comes j l (l.pair.step nd).1 (l.pair.step nd).2.2).aD,fH l'.pair:=by
 intro l' a;cases ar:(l.pair.step nd).2.2 with
 |none=>
  rw [ar] at a;rcases nQ a with h | rfl
  ·exact c l' h
  ·exact b.step nd
 |some d=>
  rw [ar] at a;rcases nQ a with h | rfl
  ·exact c l' h
  ·exact b.step nd
theorem Good.bV {F:aM} (h:Good F) {os:List c4} (b:∀ p ∈ os,(0<=p.node/\p.node<F.nodes.length)/\fH p):Good { F with bV:=os }:=
 ⟨⟨h.ok.lines,h.ok.nodes,h.ok.words,h.ok.aX,h.ok.a3,λp a=>⟨(b p a).1.1,(b p a).1.2,(b p a).2.hL⟩⟩,h.dj,λp a=>(b p a).2⟩
theorem Good.ib (h:Good F):∀ p ∈ F.bV,(0<=p.node/\p.node<F.nodes.length)/\fH p:=λp a=>⟨⟨(h.ok.eC p a).1,(h.ok.eC p a).2.1⟩,h.or p a⟩
theorem Good.drop {F:aM} (h:Good F) (c:Int):Good (F.drop c).2:=by
 unfold aM.drop;split
 ·exact h
 ·exact h.bV λp a=>h.ib p (ye a)
theorem Good.iU {F:aM} (h:Good F) (i:Nat):Good (F.iU i).2:=by
 unfold aM.iU;split
 ·exact h
 ·rename_i p g;split
  ·exact h
  ·rename_i n f;dsimp only;have hm:=cg g;have c:=h.or p hm;have hw:=h.ok.words n (cg f);have d:=h.nx p.node.toNat (n':=(p.step n).2.1) (by rw [Cn c];exact hw);have a:=(h.ib p hm).1;have j:=(BX p n).2.2;refine d.bV (os:=if (p.step n).1.ba.length=0 then F.bV.eraseIdx i else F.bV.set i (p.step n).1) λq b=>?_
   have hlen:(F.nodes.set p.node.toNat (p.step n).2.1).length=F.nodes.length:=by simp
   show (0<=q.node/\q.node<((F.nodes.set p.node.toNat (p.step n).2.1).length:Int))/\_;rw [hlen];split at b
   ·exact h.ib q (ye b)
   ·rcases nQ b with e | rfl
    ·exact h.ib q e
    ·exact ⟨by rw [j];exact a,c.step n⟩
theorem Good.step {F:aM} (h:Good F) (x:fK):Good (F.step x).2:=by
 unfold aM.step;split
 ·exact h.iU _
 split
 ·exact h
 split
 ·exact h
 rename_i C e;obtain ⟨g,a⟩:=aM.oc e;split
 ·exact h
 split
 ·rename_i l n c f;split
  ·exact h
  dsimp only;have hm:=cg a;have b:=h.dj C hm l (cg c);have hw:=h.ok.words n (cg f);have d:=h.nx x.node.toNat (n':=(l.pair.step n).2.1) (by rw [Cn b];exact hw);refine d.fp a ?_ (Iz b (h.dj C hm));have:=(h.ok.a3 _ _ a).comes c n b;simpa using this
 ·exact h
theorem Good.die {F:aM} (h:Good F) (c:Int):Good (F.die c).2:=by
 unfold aM.die;cases q:F.dj c with
 |none=>exact h
 |some C=>
  obtain ⟨t,b⟩:=aM.oc q;have f:=h.ok.a3 _ _ b;dsimp only;split
  ·exact h
  ·have k:=h.fp b (C':={ C with alive:=false,aD:=[],batch:=none,waiting:=0 }) ⟨f.inc,rfl,λj l a=>by simp at a,rfl,by simp,λds e=>by cases e⟩ (λl a=>by simp at a);refine k.bV λp s=>?_
   rcases jL.1 s with d | d
   ·exact h.ib p d
   ·obtain ⟨n,u⟩:=u5.1 d;obtain ⟨l,a,rfl⟩:=cW.1 n;obtain ⟨j,i⟩:=eF.1 a;have o:=f.lane j l i;have r:=(lq.1 i).1;have g:=f.aD;refine ⟨?_,h.dj C (cg b) l a⟩;rw [o.node];split at g
    ·exact ⟨by omega,by show (j:Int)<(F.nodes.length:Int);omega⟩
    ·omega
theorem A8 (n i:Nat) (inc:Int) (j:Nat) (l:cP) (h:(kj n i inc)[j]?=some l):l=sg i inc j/\j<n:=by
 unfold kj at h;rw [d'] at h;cases a:(List.range n)[j]? with
 |none=>rw [a] at h;cases h
 |some k=>rw [a] at h;obtain ⟨b,c⟩:=lq.1 a;simp at b c h;subst c;exact ⟨h.symm,b⟩
theorem IA (n i:Nat) (inc:Int):gZ (kj n i inc)=0:=by
 unfold kj gZ;rw [rj];induction n with
 |zero=>rfl
 |succ n a=>rw [j9,iX,List.sum_append,a];rfl
theorem Good.fresh {n c lines:Nat} (y:1<=n/\n<=5) (w:1<=c/\c<=6) (b:98<=lines/\lines<=256):Good (aM.fresh n c lines):=by
 have q:∀ (j:Nat) (l:cP) (i:Nat),(kj n i 1)[j]?=some l->fH l.pair:=by intro j l i b;obtain ⟨rfl,_⟩:=A8 _ _ _ _ _ b;exact ⟨λv an=>by simp [sg] at an,λ_=>rfl,λ_=>rfl,λx xs e=>by simp [sg] at e⟩
 refine ⟨⟨by simp [aM.fresh];omega,by simp [aM.fresh];omega,λx r=>?_,by simp [aM.fresh];omega,λi C d=>?_,λp g=>by simp [aM.fresh] at g⟩,λC d l b=>?_,λp g=>by simp [aM.fresh] at g⟩
 ·simp [aM.fresh] at r;rw [r.2];show (fmt lines n).length=lines * 8;exact Dh _ _
 ·have a:((List.range c).map (hF n))[i]?=some C:=d;rw [d'] at a;cases h:(List.range c)[i]? with
  |none=>rw [h] at a;cases a
  |some k=>
   rw [h] at a;obtain ⟨s,o⟩:=lq.1 h;simp at s o a;subst o;rw [<-a];refine ⟨by simp [hF],by simp [hF,kj,aM.fresh],λj l b=>?_,?_,by simp [hF],λds e=>by simp [hF] at e⟩
   ·have f:=q j l i b;obtain ⟨rfl,_⟩:=A8 _ _ _ _ _ b;exact ⟨rfl,rfl,rfl,rfl,λk u=>by simp [sg] at u,f.hL⟩
   ·show 0=gZ (kj n i 1);rw [IA]
 ·simp [aM.fresh] at d;obtain ⟨i,_,rfl⟩:=d;obtain ⟨j,t⟩:=eF.1 b;exact q j l i t
end
section
structure e' (A:a5) (aw:Nat->Tag) (w:ak) (aN:Nat) (L:a5) (u:ak) (B:a5) (dq:Nat->Tag) (X:bQ):Prop where
 next:Next A B aw dq w u
 cl:bZ (λk=>B k\/L k) dq u aN X
 loc:∀ k,L k->w.heap.size<=k/\k<u.heap.size/\dq k=.cr
theorem e'.start {c:ak} (h:bZ A aw w aN X) (d:ai w c) (b:∀ k,L k->w.heap.size<=k/\k<c.heap.size):e' A aw w aN L c A aw X:=by
 refine ⟨h.refl d,?_,λk a=>⟨(b k a).1,(b k a).2,h.fresh (b k a).1⟩⟩;refine (h.At d).mA (λk a=>?_) λk a=>.inl (h.fj k a)
 rcases a with a | a
 ·exact .inl a
 ·exact .inr (b k a)
theorem e'.op (t:e' A aw w aN L u B dq X) (p:d8 (λk=>B k\/L k) dq u aN F bq K) :
  ∃ B' g h,e' A aw w aN L bq B' g h/\h.pure=F/\K (λk=>B' k\/L k)/\ao (λk=>B k\/L k) u bq/\(∀ k,k<u.heap.size->B' k\/L k->B k\/L k)/\(∀ k,L k->bq.heap[k]?=u.heap[k]?):=by
 obtain ⟨A',g,h,n,o,r,q⟩:=p;have i:A'=λk=>gi A aw g w k\/L k:=by
  funext k;apply propext;rw [n.iff k];constructor
  ·rintro (b | ⟨b,c | c,d⟩)
   ·exact .inl (.inl b)
   ·rcases (t.next.iff k).1 c with f | f
    ·exact absurd d f
    ·exact .inl (.inr f)
   ·exact .inr c
  ·rintro ((b | ⟨b,c,d⟩) | b)
   ·exact .inl b
   ·refine .inr ⟨fX b t.next.az.size,.inl ((t.next.iff k).2 (.inr ⟨b,c,d⟩)),?_⟩;by_cases a:dq k=.cr
    ·exact a
    ·exact absurd d (t.next.grow k b a)
   ·obtain ⟨_,c,d⟩:=t.loc k b;exact .inr ⟨c,.inr b,d⟩
 have l:ao (λk=>B k\/L k) u bq:=n.az.mono λk _ a=>t.cl.fj k a
 refine ⟨gi A aw g w,g,h,⟨⟨t.next.az.trans n.az λk e a=>t.next.grow k e a,λk e a=>t.next.grow k e (n.grow k (fX e t.next.az.size) a),λk=>Iff.rfl⟩,i▸o,λk e=>?_⟩,r,i▸q,l,λk e a=>?_,λk e=>?_⟩
 ·obtain ⟨b,c,d⟩:=t.loc k e;refine ⟨b,fX c n.az.size,?_⟩;by_cases a:g k=.cr
  ·exact a
  ·exact absurd d (n.grow k c a)
 ·have j:A' k:=by rw [i];exact a
  rcases (n.iff k).1 j with f | f
  ·exact t.cl.fj k (n.grow k e f)
  ·exact f.2.1
 ·obtain ⟨_,c,d⟩:=t.loc k e;exact n.az.block k c λa=>a d
theorem e'.local (t:e' A aw w aN L u B dq X) {S:a5} (c:ao S u bq) (b:∀ k,S k->L k):e' A aw w aN L bq B dq X:=by refine ⟨⟨t.next.az.trans c λk e a=>?_,t.next.grow,t.next.iff⟩,t.cl.other c λk a=>⟨.inr (b k a),(t.loc k (b k a)).2.2⟩,λk d=>⟨(t.loc k d).1,fX (t.loc k d).2.1 c.size,(t.loc k d).2.2⟩⟩;have:=(t.loc k (b k a)).1;omega
theorem e'.new (t:e' A aw w aN L u B dq X) (a:ai u bq):e' A aw w aN L bq B dq X:=
 t.local a λ_ h=>h.elim
theorem e'.done (t:e' A aw w aN L u B dq X) (b:K B):d8 A aw w aN X.pure u K:=
 ⟨B,dq,X,t.next,t.cl.mA (λk a=>.inl a) (λk a=>(t.next.iff k).2 (.inl a)),rfl,b⟩
theorem gd.az {A':a5} {a:al} {xs:ax} (e:bh w a xs) (b:xs=[]\/gd A a) (d:∀ k,k<w.heap.size->A' k->A k):xs=[]\/gd A' a:=by
 rcases b with b | b
 ·exact .inl b
 ·by_cases c:xs=[]
  ·exact .inl c
  ·refine .inr ?_;cases a with
   |none=>trivial
   |some a=>intro hm;exact b (d _ (e.lt c) hm)
theorem hG.az {A A':a5} {w w':ak} {a:al} {G:List (List aL)} (h:hG A w a G) (c:ao A w w') (b:∀ k,k<w.heap.size->A' k->A k):hG A' w' a G:=by obtain ⟨rows,p,g,f,ar⟩:=h;refine ⟨rows,p,g.az c f,gd.az g f b,λi r ds n o=>?_⟩;obtain ⟨d,e,j,l⟩:=ar i r ds n o;exact ⟨d.az c e,gd.az d e b,j.az c b,l⟩
abbrev o7:TypeId:=42
abbrev zp:TypeId:=100
theorem HV (rows:List Row):∀ u ∈ kE rows,single u=true:=by intro u hu;simp only [kE,cW] at hu;obtain ⟨r,_,rfl⟩:=hu;rfl
theorem Lg {z:ak} {gH:al} {gc:Nat} {G:List (List aL)} (VG:hG B z gH G) (VK:G.length<=1000000) {b:Nat} {raw:List bR} {c:Nat} (O:av z b (fM raw).flatten iM) (Vs:gS B z raw ds) (Vv:¬ B b) (Vr:ds.length<=1024) (R:∀ k,B k->k<z.heap.size) {n:Nat} (VH:n=raw.length)
  {K:Nat->al->Nat->Nat->aE} (p:∀ u ap cap Vz,z.heap.size<=u->hG B Vz ap (G++[ds])->G.length+1<=cap->ai z Vz->K u ap (G.length+1) cap Vz) :
  ∃ (ap:al) (j g:Nat),∃ Vy,(Builtin.append_ #[o7,o7] o7 #[(.slice none 0 0),(.slice gH G.length gc)]).run prog z=.ok (.slice ap j g) Vy/\∀ u W,u=Vy.heap.size->W=Vy.alloc (.cells #[.slice (some ⟨b,0,none⟩) n c] zp)->
   ∃ (l:al) (d a:Nat),∃ X,(Builtin.append_ #[o7,o7] o7 #[(.slice ap j g),(.slice (some ⟨u,0,none⟩) 1 1)]).run prog W=.ok (.slice l d a) X/\K u l d a X:=by
 obtain ⟨inf,VB,au,q,Z⟩:=fL (T:=zp) (z:=.slice none 0 0) (n:=1) (m:=24) (by kernel_rfl);obtain ⟨rows,F,VI,J,ar⟩:=VG;have Vw:a2 z zp inf.size none 0 0 []:=a2.nil _ _ _;have Vx:(kE rows).length=G.length:=by simp [kE,F]
 obtain ⟨ap,dt,VC,V,A,Vu,Y⟩:=a2.append (P:=prog) (t:=o7) (ty:=o7) Tryz.underlying42 VB au (by rw [q];rfl) (by omega) Vw (s:=gH) (m:=G.length) (c:=gc) (news:=kE rows) (by rw [q,Vx];omega) VI (HV rows) (by omega) (by rw [Z];omega);have S:ai z VC:=Vu.mono λk _ O=>by obtain ⟨o,J⟩:=O;cases J
 have x:∀ k,aK ap k->z.heap.size<=k:=λk p=>by
  rcases Y with e | e
  ·rw [e] at p;obtain ⟨o,J⟩:=p;cases J
  ·rw [e] at p;obtain ⟨o,J⟩:=p;simp at J <;> omega
 refine ⟨ap,0+G.length,dt,VC,V,?_⟩;rw [g3,oQ] at A;rw [g3];refine ou Tryz.underlying42 VB au (by rw [q];rfl) (by omega) A (vs:=[.slice (some ⟨b,0,none⟩) n c]) (by rw [q];rfl) (by intro v an;simp at an;subst an;rfl) (by omega) (by omega) ?_;intro u l L I VF y Q N;have f:ai z I:=r' S Q x;have VJ:=S.size;refine p u l L I (by omega) ?_ y.le f;have D:∀ k,aK l k->z.heap.size<=k:=λk p=>by
  rcases N k p with M | M
  ·exact x k M
  ·omega
 have H:kE rows++[.slice (some ⟨b,0,none⟩) n c]=kE (rows++[⟨some ⟨b,0,none⟩,c,raw⟩]):=by simp [kE,VH]
 have U:bh I l (kE (rows++[⟨some ⟨b,0,none⟩,c,raw⟩])):=by rw [<-H];exact y.rd
 refine ⟨rows++[⟨some ⟨b,0,none⟩,c,raw⟩],by simp [F],U,g9 U λk p O=>?_,λi r es w C=>?_⟩
 ·have M:=D k p;have VA:=R k O;omega
 ·rw [p3] at w C;rw [F] at w;split at w
  ·rename_i E;rw [if_pos E] at C;obtain ⟨M,VA,VD,VE⟩:=ar i r es w C;exact ⟨M.new f,VA,VD.az (ao.b3 f) (λ_ _ h=>h),VE⟩
  ·rename_i E;rw [if_neg E] at C;have Vt:i - G.length=0:=by have:=(lq.1 w).1;simp at this <;> omega
   rw [Vt] at w C;simp at w C;subst w C;refine ⟨fk (ai.aj f O) (by rw [sW];exact hO (cO _)),.inr Vv,Vs.az (ao.b3 f) (λ_ _ h=>h),Vr⟩
end
section
def k9 (C:bP):Nat:=if C.alive then 1 else 0
def aM.c5 (F:aM):Nat:=(F.aX.map k9).sum
def l3 (F:aM):Prop:=F.bV.length+5 * F.c5<=1000
theorem y3:∀ {cs:List bP} {i:Nat} {C C':bP},cs[i]?=some C->((cs.set i C').map k9).sum+k9 C=(cs.map k9).sum+k9 C'
 | [],i,C,C',h=>by simp at h
 |a::cs,0,C,C',h=>by simp at h;subst h;simp;omega
 |a::cs,i+1,C,C',h=>by have:=y3 (cs:=cs) (i:=i) (C:=C) (C':=C') (by simpa using h);simp at this ⊢;omega
structure cp (F:aM):Prop where
 cj:Good F
 ga:l3 F
theorem cp.le (h:cp F):F.bV.length<=1000:=by have:=h.ga;unfold l3 at this;omega
theorem l3.fp (h:l3 F) (b:F.aX[i]?=some C) (a:C'.alive=C.alive):l3 { F with aX:=F.aX.set i C' }:=by
 have:=y3 (C':=C') b;have e:k9 C'=k9 C:=by unfold k9;rw [a]
 unfold l3 aM.c5 at *;dsimp only;omega
theorem cp.take {F:aM} (h:cp F) (c:Int):cp (F.take c).2:=by
 refine ⟨h.cj.take c,?_⟩;unfold aM.take;cases b:F.dj c with
 |none=>exact h.ga
 |some C=>
  obtain ⟨d,a⟩:=aM.oc b;dsimp only;split
  ·exact h.ga
  ·cases e:C.batch with
   |none=>exact h.ga
   |some ds=>
    dsimp only;split
    ·exact h.ga
    ·exact h.ga.fp a rfl
theorem cp.post {F:aM} (h:cp F) (c:Int) (vs:List aP):cp (F.post c vs).2:=by
 refine ⟨h.cj.post c vs,?_⟩;unfold aM.post;cases b:F.dj c with
 |none=>exact h.ga
 |some C=>
  obtain ⟨d,a⟩:=aM.oc b;dsimp only;repeat' split
  all_goals first | exact h.ga | exact h.ga.fp a (z4 vs 0 C).1
theorem cp.iU {F:aM} (h:cp F) (i:Nat):cp (F.iU i).2:=by
 refine ⟨h.cj.iU i,?_⟩;unfold aM.iU;split
 ·exact h.ga
 ·split
  ·exact h.ga
  ·dsimp only;have:=h.ga;unfold l3 aM.c5 at *;dsimp only;have a:∀ (x:c4) (b:Prop) [Decidable b],(if b then F.bV.eraseIdx i else F.bV.set i x).length<=F.bV.length:=by
    intro x b _;split
    ·exact List.length_eraseIdx_le _ _
    ·simp
   exact ll (Nat.add_le_add_right (a _ _) _) this
theorem cp.step {F:aM} (h:cp F) (x:fK):cp (F.step x).2:=by
 refine ⟨h.cj.step x,?_⟩;unfold aM.step;split
 ·exact (h.iU _).ga
 split
 ·exact h.ga
 split
 ·exact h.ga
 rename_i C b;obtain ⟨c,a⟩:=aM.oc b;split
 ·exact h.ga
 split
 ·rename_i l n d e;split
  ·exact h.ga
  dsimp only;refine l3.fp (F:={ F with nodes:=_ }) h.ga a ?_;cases (l.pair.step n).2.2<;>rfl
 ·exact h.ga
theorem cp.drop {F:aM} (h:cp F) (c:Int):cp (F.drop c).2:=by
 refine ⟨h.cj.drop c,?_⟩;unfold aM.drop;split
 ·exact h.ga
 ·have:=h.ga;unfold l3 aM.c5 at *;exact ll (Nat.add_le_add_right (List.length_eraseIdx_le _ _) _) this
theorem cp.die {F:aM} (h:cp F) (c:Int):cp (F.die c).2:=by
 refine ⟨h.cj.die c,?_⟩;unfold aM.die;cases f:F.dj c with
 |none=>exact h.ga
 |some C=>
  obtain ⟨l,b⟩:=aM.oc f;have d:=h.cj.ok.a3 _ _ b;dsimp only;split
  ·exact h.ga
  ·rename_i e;have a:C.alive=true:=by simpa using e
   have n:=y3 (C':={ C with alive:=false,aD:=[],batch:=none,waiting:=0 }) b;have g:k9 C=1:=by unfold k9;rw [a];rfl
   have i:k9 { C with alive:=false,aD:=[],batch:=none,waiting:=0 }=0:=rfl;have j:((C.aD.map cP.pair).filter (λp=>decide (0<p.ba.length))).length<=C.aD.length:=by have:=u0 (λp:c4=>decide (0<p.ba.length)) (C.aD.map cP.pair);simpa using this
   have k:C.aD.length<=5:=by rw [d.aD,a];exact h.cj.ok.nodes.2
   have:=h.ga;unfold l3 aM.c5 at *;dsimp only;rw [dH];omega
theorem cp.nx {F:aM} (h:cp F) (i:Nat) {n':a0} (a:n'.words.length=F.lines * 8):cp { F with nodes:=F.nodes.set i n' }:=⟨h.cj.nx i a,h.ga⟩
theorem cp.fresh {n c lines:Nat} (d:1<=n/\n<=5) (a:1<=c/\c<=6) (b:98<=lines/\lines<=256):cp (aM.fresh n c lines):=by
 refine ⟨Good.fresh d a b,?_⟩;have:∀ (c:Nat),(((List.range c).map (hF n)).map k9).sum=c:=by
  intro c;induction c with
  |zero=>rfl
  |succ c e=>rw [j9,iX,iX,List.sum_append,e];rfl
 unfold l3 aM.c5;show 0+5 * (((List.range c).map (hF n)).map k9).sum<=1000;rw [this];omega
def lg (F:aM) (sch:bb) (n:Nat):Nat:=if n<sch.length then (sch.getD n 0 % (F.e0.length:Int)).toNat else 0
def hc (F:aM) (sch:bb) (n:Nat):Bool×aM:=match F.e0[lg F sch n]? with
 |none=>(false,F)
 |some x=>F.step x
theorem cp.hc {F:aM} (h:cp F) (sch:bb) (n:Nat):cp (hc F sch n).2:=by
 unfold Go.Proofs.YtmkljjbioomepaaGreat.hc;split
 ·exact h
 ·exact h.step _
theorem IB (h:nU F):F.e0.length<=30+F.bV.length:=by
 unfold aM.e0;rw [dH,z0];have d:=zZ (n:=5) 0 F.aX λC b=>by obtain ⟨i,c⟩:=eF.1 b;have a:=(h.a3 i C c).aD;have e:=h.nodes.2;split at a<;>omega
 have f:=h.aX.2;omega
theorem L_ (h:bZ A aw w aN X) (k:cp X.pure) {sch:bb} {sa:al} {sc:Nat} (E:bh w sa (is sch)) (C:∀ x ∈ sch,ec x) (n:Nat) :
  a_ 35 [ptr aN,.slice sa sch.length sc,.int .i64 n] w λv w'=>v=.bool (hc X.pure sch n).1/\d8 A aw w aN (hc X.pure sch n).2 w' λ_=>True:=by
 have u:X.bV.length<=100000000:=by have:=k.le;simp [bQ.pure] at this;omega
 refine bc Tryz.func35 ?_;rw [ptr,UE];refine aC (I4 h k.cj.ok u) ?_;rintro v w1 ⟨a,cap,rfl,c⟩;have l:=h.new c.new;refine ⟨_,_,_,rfl,dJ (λz=>?_) (λz=>?_)⟩
 ·have r:X.pure.e0=[]:=fB (by omega);have:hc X.pure sch n=(false,X.pure):=by unfold hc;rw [r];rfl
  rw [this];exact ⟨rfl,d8.same h c.new trivial⟩
 ·refine a' (λD=>?_) (λD=>?_)
  ·have q:n<sch.length:=by omega
   have t:sch[n]?=some sch[n]:=bF q;have f:(is sch)[n]?=some (.int .i64 sch[n]):=by simp [is,t]
   have p:=C _ (cg t);rcases E.new c.new with he | ⟨b,o,rfl,B⟩
   ·rw [he] at f;simp at f
   refine ed (by omega) (by omega) ⟨sch[n],by simpa using B n _ f,?_⟩;have hlen:X.pure.e0.length<=1000000000:=by have G:=k.le;have H:=IB k.cj.ok;omega
   refine aC (s' _ _ _ p (by omega)) ?_;rintro v I ⟨rfl,rfl⟩;have s:0<=sch[n] % (X.pure.e0.length:Int)/\sch[n] % (X.pure.e0.length:Int)<X.pure.e0.length:=⟨x2 _ (by omega),yd _ (by omega)⟩;rw [if_neg (by omega)];refine ⟨_,rfl,?_⟩;have i:lg X.pure sch n=(sch[n] % (X.pure.e0.length:Int)).toNat:=by unfold lg;rw [if_pos q,dD,t];rfl
   have d:X.pure.e0[lg X.pure sch n]?=some X.pure.e0[lg X.pure sch n]:=bF (by omega);have j:hc X.pure sch n=X.pure.step X.pure.e0[lg X.pure sch n]:=by unfold hc;rw [d]
   obtain ⟨y,dy,rfl,e,_⟩:=c.own.rd.row (A2 _) (by omega) (A3 d);refine ed s.1 s.2 ?_;rw [<-i];refine ⟨_,_,_,e,?_⟩;refine aC (C7 l k.cj.ok X.pure.e0[lg X.pure sch n]) ?_;rintro v F ⟨rfl,g⟩;rw [j];exact ⟨_,rfl,rfl,d8.trans (h.refl c.new) g⟩
  ·have i:lg X.pure sch n=0:=by unfold lg;rw [if_neg (by omega)]
   have d:X.pure.e0[0]?=some X.pure.e0[0]:=bF (by omega);have j:hc X.pure sch n=X.pure.step X.pure.e0[0]:=by unfold hc;rw [i,d]
   obtain ⟨y,dy,rfl,e,_⟩:=c.own.rd.row (A2 _) (by omega) (A3 d);refine ed (by omega) (by omega) ?_;refine ⟨_,_,_,e,?_⟩;refine aC (C7 l k.cj.ok X.pure.e0[0]) ?_;rintro v F ⟨rfl,g⟩;rw [j];exact ⟨_,rfl,rfl,d8.trans (h.refl c.new) g⟩
structure j1 where
 at_:Int
 kind:Int
 a:Int
def j1.cells (e:j1):ax:=[.int .i64 e.at_,.int .i64 e.kind,.int .i64 e.a]
def j1.val (e:j1):a4:=.agg e.cells.toArray
structure j1.tA (e:j1):Prop where
 at_:ec e.at_
 kind:ec e.kind
 a:ec e.a
def aM.nx (F:aM) (i:Nat) (f:a0->a0):aM:=match F.nodes[i]? with
 |none=>F
 |some n=>{ F with nodes:=F.nodes.set i (f n) }
def O0 (n:a0):a0:={ n with down:=true }
def y9 (n:a0):a0:=n.back.1
theorem JX (n:a0):(y9 n).words.length=n.words.length:=by unfold y9 a0.back;split<;>simp
theorem cp.Gn (h:cp F) (i:Nat) {f:a0->a0} (a:∀ n,(f n).words.length=n.words.length):cp (F.nx i f):=by
 unfold aM.nx;split
 ·exact h
 ·rename_i n b;exact h.nx i (by rw [a];exact h.cj.ok.words n (cg b))
def aM.t' (F:aM) (cs:bb) (e:j1):aM:=
 if e.kind % 4=0 then (if cs.length=0 then F else (F.die (cs.getD (e.a % (cs.length:Int)).toNat 0)).2)
 else if e.kind % 4=1 then F.nx (e.a % (F.nodes.length:Int)).toNat O0
 else if e.kind % 4=2 then F.nx (e.a % (F.nodes.length:Int)).toNat y9
 else (F.drop (e.a % 3)).2
theorem cp.t' {F:aM} (h:cp F) (cs:bb) (e:j1):cp (F.t' cs e):=by
 unfold aM.t';split
 ·split
  ·exact h
  ·exact h.die _
 ·split
  ·exact h.Gn _ λ_=>rfl
  ·split
   ·exact h.Gn _ JX
   ·exact h.drop _
end
end Go.Proofs.YtmkljjbioomepaaGreat
