import Derived.Test.YtmkljjbioomepaaGreatb21
set_option linter.all false
namespace Go.Proofs.YtmkljjbioomepaaGreat
open Go.Proofs.Tryz Go.bu
variable {A B L:a3} {C:bU} {F cJ qk:aN} {K:(a3)->Prop} {X:bL} {c aI i j k q:Nat} {bw:Nat->Option aO} {l:cS} {n:aZ} {p:dg} {u bs w:ak} {v x:aW} {vs xs:List aW} {ws:bd} {dz aw:Nat->Tag}
section
structure fw (A:a3) (aw:Nat->Tag) (w:ak) (aI:Nat) (L:a3) (u:ak) (B:a3) (dz:Nat->Tag) (X:bL):Prop where
 next:Next A B aw dz w u
 cd:b2 (λk=>B k\/L k) dz u aI X
 loc:∀ k,L k->w.heap.size<=k/\k<u.heap.size/\dz k=.cu
theorem fw.start {c:ak} (h:b2 A aw w aI X) (d:ai w c) (b:∀ k,L k->w.heap.size<=k/\k<c.heap.size):fw A aw w aI L c A aw X:=by
 refine ⟨h.refl d,?_,λk a=>⟨(b k a).1,(b k a).2,h.fresh (b k a).1⟩⟩;refine (h.AN d).mF (λk a=>?_) λk a=>.inl (h.e9 k a)
 rcases a with a | a
 ·exact .inl a
 ·exact .inr (b k a)
theorem fw.op (t:fw A aw w aI L u B dz X) (p:dT (λk=>B k\/L k) dz u aI F bs K) :
  ∃ B' g h,fw A aw w aI L bs B' g h/\h.pure=F/\K (λk=>B' k\/L k)/\ao (λk=>B k\/L k) u bs/\(∀ k,k<u.heap.size->B' k\/L k->B k\/L k)/\(∀ k,L k->bs.heap[k]?=u.heap[k]?):=by
 obtain ⟨A',g,h,n,o,r,q⟩:=p;have i:A'=λk=>gp A aw g w k\/L k:=by
  funext k;apply propext;rw [n.iff k];constructor
  ·rintro (b | ⟨b,c | c,d⟩)
   ·exact .inl (.inl b)
   ·rcases (t.next.iff k).1 c with f | f
    ·exact absurd d f
    ·exact .inl (.inr f)
   ·exact .inr c
  ·rintro ((b | ⟨b,c,d⟩) | b)
   ·exact .inl b
   ·refine .inr ⟨f8 b t.next.az.size,.inl ((t.next.iff k).2 (.inr ⟨b,c,d⟩)),?_⟩;by_cases a:dz k=.cu
    ·exact a
    ·exact absurd d (t.next.grow k b a)
   ·obtain ⟨_,c,d⟩:=t.loc k b;exact .inr ⟨c,.inr b,d⟩
 have l:ao (λk=>B k\/L k) u bs:=n.az.mono λk _ a=>t.cd.e9 k a
 refine ⟨gp A aw g w,g,h,⟨⟨t.next.az.trans n.az λk e a=>t.next.grow k e a,λk e a=>t.next.grow k e (n.grow k (f8 e t.next.az.size) a),λk=>Iff.rfl⟩,i▸o,λk e=>?_⟩,r,i▸q,l,λk e a=>?_,λk e=>?_⟩
 ·obtain ⟨b,c,d⟩:=t.loc k e;refine ⟨b,f8 c n.az.size,?_⟩;by_cases a:g k=.cu
  ·exact a
  ·exact absurd d (n.grow k c a)
 ·have j:A' k:=by rw [i];exact a
  rcases (n.iff k).1 j with f | f
  ·exact t.cd.e9 k (n.grow k e f)
  ·exact f.2.1
 ·obtain ⟨_,c,d⟩:=t.loc k e;exact n.az.block k c λa=>a d
theorem fw.local (t:fw A aw w aI L u B dz X) {S:a3} (c:ao S u bs) (b:∀ k,S k->L k):fw A aw w aI L bs B dz X:=by refine ⟨⟨t.next.az.trans c λk e a=>?_,t.next.grow,t.next.iff⟩,t.cd.other c λk a=>⟨.inr (b k a),(t.loc k (b k a)).2.2⟩,λk d=>⟨(t.loc k d).1,f8 (t.loc k d).2.1 c.size,(t.loc k d).2.2⟩⟩;have:=(t.loc k (b k a)).1;omega
theorem fw.new (t:fw A aw w aI L u B dz X) (a:ai u bs):fw A aw w aI L bs B dz X:=
 t.local a λ_ h=>h.elim
theorem fw.done (t:fw A aw w aI L u B dz X) (b:K B):dT A aw w aI X.pure u K:=
 ⟨B,dz,X,t.next,t.cd.mF (λk a=>.inl a) (λk a=>(t.next.iff k).2 (.inl a)),rfl,b⟩
theorem gl.az {A':a3} {a:an} {xs:ax} (e:bh w a xs) (b:xs=[]\/gl A a) (d:∀ k,k<w.heap.size->A' k->A k):xs=[]\/gl A' a:=by
 rcases b with b | b
 ·exact .inl b
 ·by_cases c:xs=[]
  ·exact .inl c
  ·refine .inr ?_;cases a with
   |none=>trivial
   |some a=>intro hm;exact b (d _ (e.lt c) hm)
theorem hI.az {A A':a3} {w w':ak} {a:an} {G:List (List aO)} (h:hI A w a G) (c:ao A w w') (b:∀ k,k<w.heap.size->A' k->A k):hI A' w' a G:=by obtain ⟨rows,p,g,f,ar⟩:=h;refine ⟨rows,p,g.az c f,gl.az g f b,λi r ds n o=>?_⟩;obtain ⟨d,e,j,l⟩:=ar i r ds n o;exact ⟨d.az c e,gl.az d e b,j.az c b,l⟩
abbrev pd:TypeId:=42
abbrev zO:TypeId:=100
theorem H7 (rows:List Row):∀ u ∈ kJ rows,single u=true:=by intro u hu;simp only [kJ,cT] at hu;obtain ⟨r,_,rfl⟩:=hu;rfl
theorem K4 {z:ak} {gI:an} {gc:Nat} {G:List (List aO)} (Wf:hI B z gI G) (Wj:G.length<=1000000) {b:Nat} {raw:List bO} {ds:List aO} (O:av z b (fP raw).flatten iR) (V3:gW B z raw ds) (V6:¬ B b) (V2:ds.length<=1024) (R:∀ k,B k->k<z.heap.size) {n:Nat} (Wg:n=raw.length)
  {K:Nat->an->Nat->Nat->aE} (p:∀ u ap cap V_,z.heap.size<=u->hI B V_ ap (G++[ds])->G.length+1<=cap->ai z V_->K u ap (G.length+1) cap V_) :
  ∃ (ap:an) (j g:Nat),∃ V9,(Builtin.append_ #[pd,pd] pd #[(.slice none 0 0),(.slice gI G.length gc)]).run prog z=.ok (.slice ap j g) V9/\∀ u W,u=V9.heap.size->W=V9.alloc (.cells #[.slice (some ⟨b,0,none⟩) n c] zO)->
   ∃ (l:an) (d a:Nat),∃ X,(Builtin.append_ #[pd,pd] pd #[(.slice ap j g),(.slice (some ⟨u,0,none⟩) 1 1)]).run prog W=.ok (.slice l d a) X/\K u l d a X:=by
 obtain ⟨inf,Wa,au,q,Z⟩:=fO (T:=zO) (z:=.slice none 0 0) (n:=1) (m:=24) (by kernel_rfl);obtain ⟨rows,F,Wh,J,ar⟩:=Wf;have V7:a0 z zO inf.size none 0 0 []:=a0.nil _ _ _;have V8:(kJ rows).length=G.length:=by simp [kJ,F]
 obtain ⟨ap,du,Wb,V,A,V5,Y⟩:=a0.append (P:=prog) (t:=pd) (ty:=pd) Tryz.underlying42 Wa au (by rw [q];rfl) (by omega) V7 (s:=gI) (m:=G.length) (c:=gc) (news:=kJ rows) (by rw [q,V8];omega) Wh (H7 rows) (by omega) (by rw [Z];omega);have S:ai z Wb:=V5.mono λk _ O=>by obtain ⟨o,J⟩:=O;cases J
 have x:∀ k,aL ap k->z.heap.size<=k:=λk p=>by
  rcases Y with e | e
  ·rw [e] at p;obtain ⟨o,J⟩:=p;cases J
  ·rw [e] at p;obtain ⟨o,J⟩:=p;simp at J <;> omega
 refine ⟨ap,0+G.length,du,Wb,V,?_⟩;rw [g6,mX] at A;rw [g6];refine oD Tryz.underlying42 Wa au (by rw [q];rfl) (by omega) A (vs:=[.slice (some ⟨b,0,none⟩) n c]) (by rw [q];rfl) (by intro v al;simp at al;subst al;rfl) (by omega) (by omega) ?_;intro u l L I We y Q N;have f:ai z I:=sv S Q x;have Wi:=S.size;refine p u l L I (by omega) ?_ y.le f;have D:∀ k,aL l k->z.heap.size<=k:=λk p=>by
  rcases N k p with M | M
  ·exact x k M
  ·omega
 have H:kJ rows++[.slice (some ⟨b,0,none⟩) n c]=kJ (rows++[⟨some ⟨b,0,none⟩,c,raw⟩]):=by simp [kJ,Wg]
 have U:bh I l (kJ (rows++[⟨some ⟨b,0,none⟩,c,raw⟩])):=by rw [<-H];exact y.rd
 refine ⟨rows++[⟨some ⟨b,0,none⟩,c,raw⟩],by simp [F],U,hn U λk p O=>?_,λi r es w C=>?_⟩
 ·have M:=D k p;have V':=R k O;omega
 ·rw [p7] at w C;rw [F] at w;split at w
  ·rename_i E;rw [if_pos E] at C;obtain ⟨M,V',Wc,Wd⟩:=ar i r es w C;exact ⟨M.new f,V',Wc.az (ao.b4 f) (λ_ _ h=>h),Wd⟩
  ·rename_i E;rw [if_neg E] at C;have V4:i - G.length=0:=by have:=(lx.1 w).1;simp at this <;> omega
   rw [V4] at w C;simp at w C;subst w C;refine ⟨fm (ai.aj f O) (by rw [td];exact hS (cQ _)),.inr V6,V3.az (ao.b4 f) (λ_ _ h=>h),V2⟩
end
section
def k_ (C:bU):Nat:=if C.alive then 1 else 0
def aN.c8 (F:aN):Nat:=(F.aV.map k_).sum
def l4 (F:aN):Prop:=F.bP.length+5 * F.c8<=1000
theorem zg:∀ {cs:List bU} {i:Nat} {C C':bU},cs[i]?=some C->((cs.set i C').map k_).sum+k_ C=(cs.map k_).sum+k_ C'
 | [],i,C,C',h=>by simp at h
 |a::cs,0,C,C',h=>by simp at h;subst h;simp;omega
 |a::cs,i+1,C,C',h=>by have:=zg (cs:=cs) (i:=i) (C:=C) (C':=C') (by simpa using h);simp at this ⊢;omega
structure cp (F:aN):Prop where
 cf:Good F
 gk:l4 F
theorem cp.le (h:cp F):F.bP.length<=1000:=by have:=h.gk;unfold l4 at this;omega
theorem l4.fs (h:l4 F) {C':bU} (b:F.aV[i]?=some C) (a:C'.alive=C.alive):l4 { F with aV:=F.aV.set i C' }:=by
 have:=zg (C':=C') b;have e:k_ C'=k_ C:=by unfold k_;rw [a]
 unfold l4 aN.c8 at *;dsimp only;omega
theorem cp.take {F:aN} (h:cp F) (c:Int):cp (F.take c).2:=by
 refine ⟨h.cf.take c,?_⟩;unfold aN.take;cases b:F.dm c with
 |none=>exact h.gk
 |some C=>
  obtain ⟨d,a⟩:=aN.ot b;dsimp only;split
  ·exact h.gk
  ·cases e:C.batch with
   |none=>exact h.gk
   |some ds=>
    dsimp only;split
    ·exact h.gk
    ·exact h.gk.fs a rfl
theorem cp.post {F:aN} (h:cp F) (c:Int) (vs:List aW):cp (F.post c vs).2:=by
 refine ⟨h.cf.post c vs,?_⟩;unfold aN.post;cases b:F.dm c with
 |none=>exact h.gk
 |some C=>
  obtain ⟨d,a⟩:=aN.ot b;dsimp only;repeat' split
  all_goals first | exact h.gk | exact h.gk.fs a (ro vs 0 C).1
theorem cp.iZ {F:aN} (h:cp F) (i:Nat):cp (F.iZ i).2:=by
 refine ⟨h.cf.iZ i,?_⟩;unfold aN.iZ;split
 ·exact h.gk
 ·split
  ·exact h.gk
  ·dsimp only;have:=h.gk;unfold l4 aN.c8 at *;dsimp only;have a:∀ (x:dg) (b:Prop) [Decidable b],(if b then F.bP.eraseIdx i else F.bP.set i x).length<=F.bP.length:=by
    intro x b _;split
    ·exact List.length_eraseIdx_le _ _
    ·simp
   exact lq (Nat.add_le_add_right (a _ _) _) this
theorem cp.step {F:aN} (h:cp F) (x:fo):cp (F.step x).2:=by
 refine ⟨h.cf.step x,?_⟩;unfold aN.step;split
 ·exact (h.iZ _).gk
 split
 ·exact h.gk
 split
 ·exact h.gk
 rename_i C b;obtain ⟨c,a⟩:=aN.ot b;split
 ·exact h.gk
 split
 ·rename_i l n d e;split
  ·exact h.gk
  dsimp only;refine l4.fs (F:={ F with nodes:=_ }) h.gk a ?_;cases (l.pair.step n).2.2<;>rfl
 ·exact h.gk
theorem cp.drop {F:aN} (h:cp F) (c:Int):cp (F.drop c).2:=by
 refine ⟨h.cf.drop c,?_⟩;unfold aN.drop;split
 ·exact h.gk
 ·have:=h.gk;unfold l4 aN.c8 at *;exact lq (Nat.add_le_add_right (List.length_eraseIdx_le _ _) _) this
theorem cp.die {F:aN} (h:cp F) (c:Int):cp (F.die c).2:=by
 refine ⟨h.cf.die c,?_⟩;unfold aN.die;cases f:F.dm c with
 |none=>exact h.gk
 |some C=>
  obtain ⟨l,b⟩:=aN.ot f;have d:=h.cf.ok.a1 _ _ b;dsimp only;split
  ·exact h.gk
  ·rename_i e;have a:C.alive=true:=by simpa using e
   have n:=zg (C':={ C with alive:=false,aD:=[],batch:=none,waiting:=0 }) b;have g:k_ C=1:=by unfold k_;rw [a];rfl
   have i:k_ { C with alive:=false,aD:=[],batch:=none,waiting:=0 }=0:=rfl;have j:((C.aD.map cS.pair).filter (λp=>decide (0<p.ba.length))).length<=C.aD.length:=by have:=vi (λp:dg=>decide (0<p.ba.length)) (C.aD.map cS.pair);simpa using this
   have k:C.aD.length<=5:=by rw [d.aD,a];exact h.cf.ok.nodes.2
   have:=h.gk;unfold l4 aN.c8 at *;dsimp only;rw [dI];omega
theorem cp.nG {F:aN} (h:cp F) (i:Nat) {n':aZ} (a:n'.words.length=F.lines * 8):cp { F with nodes:=F.nodes.set i n' }:=⟨h.cf.nG i a,h.gk⟩
theorem cp.fresh {n c lines:Nat} (d:1<=n/\n<=5) (a:1<=c/\c<=6) (b:98<=lines/\lines<=256):cp (aN.fresh n c lines):=by
 refine ⟨Good.fresh d a b,?_⟩;have:∀ (c:Nat),(((List.range c).map (hH n)).map k_).sum=c:=by
  intro c;induction c with
  |zero=>rfl
  |succ c e=>rw [ki,ja,ja,List.sum_append,e];rfl
 unfold l4 aN.c8;show 0+5 * (((List.range c).map (hH n)).map k_).sum<=1000;rw [this];omega
def lo (F:aN) (sch:bd) (n:Nat):Nat:=if n<sch.length then (sch.getD n 0 % (F.dL.length:Int)).toNat else 0
def hd (F:aN) (sch:bd) (n:Nat):Bool×aN:=match F.dL[lo F sch n]? with
 |none=>(false,F)
 |some x=>F.step x
theorem cp.hd {F:aN} (h:cp F) (sch:bd) (n:Nat):cp (hd F sch n).2:=by
 unfold Go.Proofs.YtmkljjbioomepaaGreat.hd;split
 ·exact h
 ·exact h.step _
theorem BE (h:nR F):F.dL.length<=30+F.bP.length:=by
 unfold aN.dL;rw [dI,Ak];have d:=Aj (n:=5) 0 F.aV λC b=>by obtain ⟨i,c⟩:=eh.1 b;have a:=(h.a1 i C c).aD;have e:=h.nodes.2;split at a<;>omega
 have f:=h.aV.2;omega
theorem Nd (h:b2 A aw w aI X) (k:cp X.pure) {sch:bd} {sa:an} {sc:Nat} (E:bh w sa (is sch)) (C:∀ x ∈ sch,dN x) (n:Nat) :
  a9 35 [ptr aI,.slice sa sch.length sc,.int .i64 n] w λv w'=>v=.bool (hd X.pure sch n).1/\dT A aw w aI (hd X.pure sch n).2 w' λ_=>True:=by
 have u:X.bP.length<=100000000:=by have:=k.le;simp [bL.pure] at this;omega
 refine bc Tryz.func35 ?_;rw [ptr,U1];refine aC (AZ h k.cf.ok u) ?_;rintro v w1 ⟨a,cap,rfl,c⟩;have l:=h.new c.new;refine ⟨_,_,_,rfl,dY (λz=>?_) (λz=>?_)⟩
 ·have r:X.pure.dL=[]:=fI (by omega);have:hd X.pure sch n=(false,X.pure):=by unfold hd;rw [r];rfl
  rw [this];exact ⟨rfl,dT.same h c.new trivial⟩
 ·refine a8 (λD=>?_) (λD=>?_)
  ·have q:n<sch.length:=by omega
   have t:sch[n]?=some sch[n]:=bD q;have f:(is sch)[n]?=some (.int .i64 sch[n]):=by simp [is,t]
   have p:=C _ (b7 t);rcases E.new c.new with he | ⟨b,o,rfl,B⟩
   ·rw [he] at f;simp at f
   refine ee (by omega) (by omega) ⟨sch[n],by simpa using B n _ f,?_⟩;have hlen:X.pure.dL.length<=1000000000:=by have G:=k.le;have H:=BE k.cf.ok;omega
   refine aC (rM _ _ _ p (by omega)) ?_;rintro v I ⟨rfl,rfl⟩;have s:0<=sch[n] % (X.pure.dL.length:Int)/\sch[n] % (X.pure.dL.length:Int)<X.pure.dL.length:=⟨u_ _ (by omega),vn _ (by omega)⟩;rw [if_neg (by omega)];refine ⟨_,rfl,?_⟩;have i:lo X.pure sch n=(sch[n] % (X.pure.dL.length:Int)).toNat:=by unfold lo;rw [if_pos q,dF,t];rfl
   have d:X.pure.dL[lo X.pure sch n]?=some X.pure.dL[lo X.pure sch n]:=bD (by omega);have j:hd X.pure sch n=X.pure.step X.pure.dL[lo X.pure sch n]:=by unfold hd;rw [d]
   obtain ⟨y,dy,rfl,e,_⟩:=c.own.rd.row (Bx _) (by omega) (By d);refine ee s.1 s.2 ?_;rw [<-i];refine ⟨_,_,_,e,?_⟩;refine aC (yV l k.cf.ok X.pure.dL[lo X.pure sch n]) ?_;rintro v F ⟨rfl,g⟩;rw [j];exact ⟨_,rfl,rfl,dT.trans (h.refl c.new) g⟩
  ·have i:lo X.pure sch n=0:=by unfold lo;rw [if_neg (by omega)]
   have d:X.pure.dL[0]?=some X.pure.dL[0]:=bD (by omega);have j:hd X.pure sch n=X.pure.step X.pure.dL[0]:=by unfold hd;rw [i,d]
   obtain ⟨y,dy,rfl,e,_⟩:=c.own.rd.row (Bx _) (by omega) (By d);refine ee (by omega) (by omega) ?_;refine ⟨_,_,_,e,?_⟩;refine aC (yV l k.cf.ok X.pure.dL[0]) ?_;rintro v F ⟨rfl,g⟩;rw [j];exact ⟨_,rfl,rfl,dT.trans (h.refl c.new) g⟩
structure kb where
 at_:Int
 kind:Int
 a:Int
def kb.cells (e:kb):ax:=[.int .i64 e.at_,.int .i64 e.kind,.int .i64 e.a]
def kb.val (e:kb):a2:=.agg e.cells.toArray
structure kb.tS (e:kb):Prop where
 at_:dN e.at_
 kind:dN e.kind
 a:dN e.a
def aN.nG (F:aN) (i:Nat) (f:aZ->aZ):aN:=match F.nodes[i]? with
 |none=>F
 |some n=>{ F with nodes:=F.nodes.set i (f n) }
def O2 (n:aZ):aZ:={ n with down:=true }
def zC (n:aZ):aZ:=n.back.1
theorem J0 (n:aZ):(zC n).words.length=n.words.length:=by unfold zC aZ.back;split<;>simp
theorem cp.GN (h:cp F) (i:Nat) {f:aZ->aZ} (a:∀ n,(f n).words.length=n.words.length):cp (F.nG i f):=by
 unfold aN.nG;split
 ·exact h
 ·rename_i n b;exact h.nG i (by rw [a];exact h.cf.ok.words n (b7 b))
def aN.ux (F:aN) (cs:bd) (e:kb):aN:=
 if e.kind % 4=0 then (if cs.length=0 then F else (F.die (cs.getD (e.a % (cs.length:Int)).toNat 0)).2)
 else if e.kind % 4=1 then F.nG (e.a % (F.nodes.length:Int)).toNat O2
 else if e.kind % 4=2 then F.nG (e.a % (F.nodes.length:Int)).toNat zC
 else (F.drop (e.a % 3)).2
theorem cp.ux {F:aN} (h:cp F) (cs:bd) (e:kb):cp (F.ux cs e):=by
 unfold aN.ux;split
 ·split
  ·exact h
  ·exact h.die _
 ·split
  ·exact h.GN _ λ_=>rfl
  ·split
   ·exact h.GN _ J0
   ·exact h.drop _
end
section
structure Conv where
 a6:Type
 O:Type
 next:a6->List (List aO)->List aW×O×Bool
structure b_ (c:Conv) where
 a1:Int
 bM:c.a6
 a4:List (List aO)
 e0:Bool
 bad:Bool
 out:c.O
section
variable {c:Conv}
def b_.told (t:b_ c):b_ c:={ t with e0:=(c.next t.bM t.a4).2.2,out:=(c.next t.bM t.a4).2.1 }
def b_.z6 (t:b_ c):Option (List aO)->b_ c
 |none=>t
 |some d=>{ t with a4:=t.a4++[d] }
def b_.fail (t:b_ c):b_ c:={ t with e0:=true,bad:=true }
def kM (F:aN) (t:b_ c):aN×b_ c:=
 if 200<t.a4.length then (F,t.fail) else if (c.next t.bM t.a4).2.2=true then (F,t.told)
 else if (F.post t.a1 (c.next t.bM t.a4).1).1≠0 then ((F.post t.a1 (c.next t.bM t.a4).1).2,t.told.fail) else ((F.post t.a1 (c.next t.bM t.a4).1).2,t.told)
def cZ (F:aN) (t:b_ c):aN×b_ c:=
 if t.e0=true\/F.alive t.a1=false\/0<F.waiting t.a1 then (F,t) else kM (F.take t.a1).2 (t.z6 (F.take t.a1).1)
def turns:aN->List (b_ c)->aN×List (b_ c)
 |F,[]=>(F,[])
 |F,t::ts=>((turns (cZ F t).1 ts).1,(cZ F t).2::(turns (cZ F t).1 ts).2)
def ku (F:aN) (cs:bd) (n:Nat):List kb->aN
 | []=>F
 |e::es=>ku (if e.at_ % 60=n then F.ux cs e else F) cs n es
def hB (cs sch:bd) (es:List kb):Nat->Nat->aN->List (b_ c)->aN×List (b_ c)
 | 0,_,F,l=>(F,l)
 |f+1,n,F,l=>
  if (hd (turns (ku F cs n es) l).1 sch n).1=true then hB cs sch es f (n+1) (hd (turns (ku F cs n es) l).1 sch n).2 (turns (ku F cs n es) l).2
  else ((hd (turns (ku F cs n es) l).1 sch n).2,(turns (ku F cs n es) l).2)
def eV (F:aN) (l:List (b_ c)) (sch:bd) (es:List kb) (most:Nat):aN×List (b_ c):=
 turns (hB (l.map b_.a1) sch es most 0 F l).1 (hB (l.map b_.a1) sch es most 0 F l).2
def mQ (F:aN) (t:b_ c):aN×List (b_ c):=eV F [t] [] [] 20000
theorem cp.tail (h:cp F) (t:b_ c):cp (kM F t).1:=by
 unfold kM;split
 ·exact h
 ·split
  ·exact h
  ·split
   ·exact h.post _ _
   ·exact h.post _ _
theorem cp.cZ {F:aN} (h:cp F) (t:b_ c):cp (cZ F t).1:=by
 unfold Go.Proofs.YtmkljjbioomepaaGreat.cZ;split
 ·exact h
 ·exact (h.take _).tail _
theorem cp.turns:∀ (l:List (b_ c)) {F:aN},cp F->cp (turns F l).1
 | [],_,h=>h
 |t::l,F,h=>by unfold Go.Proofs.YtmkljjbioomepaaGreat.turns;exact cp.turns l (h.cZ t)
theorem cp.ku {cs:bd} {n:Nat}:∀ (es:List kb) {F:aN},cp F->cp (ku F cs n es)
 | [],F,h=>h
 |e::es,F,h=>by
  unfold Go.Proofs.YtmkljjbioomepaaGreat.ku;refine cp.ku es ?_;split
  ·exact h.ux cs e
  ·exact h
theorem cp.hB (cs sch:bd) (es:List kb):∀ (f n:Nat) {F:aN} (l:List (b_ c)),cp F->cp (hB cs sch es f n F l).1
 | 0,_,_,_,h=>h
 |f+1,n,F,l,h=>by
  unfold Go.Proofs.YtmkljjbioomepaaGreat.hB;have a:=(cp.turns l (cp.ku (cs:=cs) (n:=n) es h)).hd sch n;split
  ·exact cp.hB cs sch es f (n+1) _ a
  ·exact a
theorem cp.eV {F:aN} (h:cp F) (l:List (b_ c)) (sch:bd) (es:List kb) (most:Nat):cp (eV F l sch es most).1:=cp.turns _ (cp.hB _ _ _ _ _ _ h)
def mR (t:b_ c):Prop:=t.e0=false->t.a4.length<=200
theorem JB {t:b_ c}:mR (kM F t).2:=by
 unfold kM;split
 ·intro e;cases e
 ·rename_i a;split
  ·intro _;show t.a4.length<=200;omega
  ·split
   ·intro e;cases e
   ·intro _;show t.a4.length<=200;omega
theorem JC {t:b_ c} (h:mR t):mR (cZ F t).2:=by
 unfold cZ;split
 ·exact h
 ·exact JB
structure l8 (qk:aN) (cY:List (b_ c)) (i:Nat) (F:aN) (l:List (b_ c)):Prop where
 cd:(turns F (l.drop i)).1=(turns qk cY).1
 rest:l.take i++(turns F (l.drop i)).2=(turns qk cY).2
 len:l.length=cY.length
theorem l8.start (F:aN) (l:List (b_ c)):l8 F l 0 F l:=⟨rfl,rfl,rfl⟩
theorem l8.step {cY l:List (b_ c)} (h:l8 qk cY i F l) {t:b_ c} (g:l[i]?=some t):l8 qk cY (i+1) (cZ F t).1 (l.set i (cZ F t).2):=by
 obtain ⟨a,he⟩:=lx.1 g;obtain ⟨b,d,f⟩:=h;rw [oU a,he,turns] at b d;refine ⟨?_,?_,by rw [p9];exact f⟩
 ·rw [List.drop_set_of_lt (by omega)];exact b
 ·rw [List.drop_set_of_lt (by omega),<-d];rw [Hy (by simpa using a)];have e:List.take i (l.set i (cZ F t).2)=List.take i l:=by
   apply kj;intro q;rw [oV,oV];split
   ·rw [hW (by omega)]
   ·rfl
  rw [e];simp
theorem l8.done {cY l:List (b_ c)} (h:l8 qk cY i F l) (d:i=l.length):turns qk cY=(F,l):=by obtain ⟨b,a,e⟩:=h;subst d;rw [rl,turns] at b a;rw [hx,i'] at a;exact Prod.ext b.symm a.symm
theorem x2:∀ (F:aN) (l:List (b_ c)),(turns F l).2.length=l.length
 | _,[]=>rfl
 |F,t::ts=>by simp [turns,x2]
theorem Hn (cs sch:bd) (es:List kb):∀ (f n:Nat) (F:aN) (l:List (b_ c)),(hB cs sch es f n F l).2.length=l.length
 | 0,_,_,_=>rfl
 |f+1,n,F,l=>by
  unfold hB;split
  ·rw [Hn,x2]
  ·exact x2 _ _
theorem J1 (F:aN) (t:b_ c):∃ a,(mQ F t).2=[a]:=by
 have:(mQ F t).2.length=1:=by unfold mQ eV;rw [x2,Hn];rfl
 exact vh.1 this
end
def o5 (A:a3) (u:ak) (a:an) (xs:ax):Prop:=bh u a xs/\(xs=[]\/gl A a)
theorem o5.az {A A':a3} {w w':ak} {a:an} {xs:ax} (h:o5 A w a xs) (c:ao A w w') (b:∀ k,k<w.heap.size->A' k->A k):o5 A' w' a xs:=⟨h.1.az c h.2,gl.az h.1 h.2 b⟩
theorem a0.SF {e sz n cap g:Nat} {rows:List ax} (h:a0 w e sz (some ⟨g,0,none⟩) n cap rows.flatten) (a:∀ r ∈ rows,r.length=sz) (p:rows.length=n) (k:i<n) {vs:ax} (al:vs.length=sz) (d:∀ v ∈ vs,single v=true) :
  ec w ⟨g,i * sz,none⟩ 0 vs/\a0 (cr w ⟨g,i * sz,none⟩ 0 vs) e sz (some ⟨g,0,none⟩) n cap (rows.set i vs).flatten:=by
 subst p;rcases h.2 with ⟨he,_⟩ | ⟨bV,cur,he,b,c,hm,y,x⟩
 ·cases he
 ·simp at he;subst he;have j:=mj a;have l:i * sz+sz<=rows.length * sz:=by rw [<-hT];exact tc _ k
  have s:rows.length * sz<=cap * sz:=tc _ c;refine ⟨gg b (by omega) d,?_⟩;have t:=b.cr (o:=i * sz) (i:=0) (vs:=vs);refine ⟨?_,.inr ⟨g,_,rfl,t,c,hm,?_,?_⟩⟩
  ·rw [mj (sz:=sz),p9];intro r u;rcases n0 u with f | rfl
   ·exact a r f
   ·exact al
  ·rw [py (by omega)];simp;omega
  ·rw [<-Hu a (by omega) al,l0,py (by omega),py (by omega),<-x];apply kj;intro q;simp only [oV,p7,iM,dI,lu];repeat' split
   all_goals first | rfl | omega | (congr 1;omega) | skip
   all_goals first | rfl | (exfalso;omega) | skip
end
section
section
variable {S a7:Type} (st:a7->S->Option S) (ok:S->Prop)
variable {st ok}
end
def mH (c j:Nat) (F:aN):Option aN:=match F.aV[c]? with
 |none=>none
 |some C=>match C.aD[j]?,F.nodes[j]? with
  |some l,some n=>if l.pair.ba.length=0 then none else some { F with nodes:=F.nodes.set j (l.pair.step n).2.1,aV:=F.aV.set c (C.comes j l (l.pair.step n).1 (l.pair.step n).2.2) }
  | _,_=>none
theorem sx:mH c j F=some cJ↔∃ C l n,F.aV[c]?=some C/\C.aD[j]?=some l/\F.nodes[j]?=some n/\l.pair.ba.length≠0/\cJ={ F with nodes:=F.nodes.set j (l.pair.step n).2.1,aV:=F.aV.set c (C.comes j l (l.pair.step n).1 (l.pair.step n).2.2) }:=by
 unfold mH;constructor
 ·intro h;cases b:F.aV[c]? with
  |none=>rw [b] at h;cases h
  |some C=>
   rw [b] at h;simp only at h;cases a:C.aD[j]? with
   |none=>rw [a] at h;cases h
   |some l=>
    rw [a] at h;cases d:F.nodes[j]? with
    |none=>rw [d] at h;cases h
    |some n=>
     rw [d] at h;simp only at h;split at h
     ·cases h
     ·rename_i al;exact ⟨C,l,n,rfl,a,rfl,al,(nX h).symm⟩
 ·rintro ⟨C,l,n,b,a,d,al,rfl⟩;rw [b];simp only [a,d,if_neg al]
theorem AO (h:mH c j F=some cJ):F.step ⟨-1,c,j⟩=(true,cJ):=by
 obtain ⟨C,l,n,b,d,e,al,rfl⟩:=sx.1 h;unfold aN.step;have a:F.dm (c:Int)=some C:=by unfold aN.dm;rw [if_neg (by omega)];simpa using b
 simp only [show ¬ (0:Int)<=-1 by omega,show ¬ (-1:Int) < -1 by omega,if_false,a,show ¬ ((j:Nat):Int)<0 by omega,fU,d,e,if_neg al]
theorem ps {d:Option aO} (h:i≠j):(C.comes j l p d).aD[i]?=C.aD[i]?:=by cases d<;>simp [bU.comes,hW (λe=>h e.symm)]
end
section
theorem xu {x:fo} {i:Nat}:∀ {ls:List cS} {j:Nat},x ∈ kV i j ls↔∃ q l,ls[q]?=some l/\0<l.pair.ba.length/\x=⟨-1,i,(j+q:Nat)⟩
 | [],j=>by simp [kV]
 |l::ls,j=>by
  unfold kV;rw [jT,xu (ls:=ls) (j:=j+1)];constructor
  ·rintro (h | ⟨q,l',a,b,c⟩)
   ·split at h
    ·rename_i al;simp at h;exact ⟨0,l,rfl,al,by rw [h];simp⟩
    ·cases h
   ·exact ⟨q+1,l',by simpa using a,b,by rw [c];congr 2;omega⟩
  ·rintro ⟨q,l',a,b,c⟩;cases q with
   |zero=>left;simp at a;subst a;rw [if_pos b,c];simp
   |succ q=>exact .inr ⟨q,l',by simpa using a,b,by rw [c];congr 2;omega⟩
theorem xv {x:fo}:∀ {cs:List bU} {i:Nat},x ∈ j2 i cs↔∃ q C,cs[q]?=some C/\x ∈ kV (i+q) 0 C.aD
 | [],i=>by simp [j2]
 |C::cs,i=>by
  unfold j2;rw [jT,xv (cs:=cs) (i:=i+1)];constructor
  ·rintro (h | ⟨q,C',a,b⟩)
   ·exact ⟨0,C,rfl,h⟩
   ·exact ⟨q+1,C',by simpa using a,by rw [show i+(q+1)=i+1+q by omega];exact b⟩
  ·rintro ⟨q,C',a,b⟩;cases q with
   |zero=>left;simp at a;subst a;exact b
   |succ q=>exact .inr ⟨q,C',by simpa using a,by rw [show i+1+q=i+(q+1) by omega];exact b⟩
end
section
def Below (C:bU) (k:Nat):Prop:=∀ (i:Nat) (l:cS),C.aD[i]?=some l->∀ q ∈ l.bR,q<k
theorem Ik (h:(C.gu k v).aD[i]?=some l):∃ cY,C.aD[i]?=some cY/\((l.bR=cY.bR/\l.pair.ba=cY.pair.ba/\v.node.toNat≠i)\/(l.bR=cY.bR++[k]/\l.pair.ba=cY.pair.ba++[v]/\v.node.toNat=i)):=by
 unfold bU.gu at h;simp only [te] at h;cases a:C.aD[i]? with
 |none=>rw [a] at h;simp at h
 |some cY=>
  rw [a] at h;refine ⟨cY,rfl,?_⟩;by_cases e:v.node.toNat=i
  ·right;simp [e] at h;subst h;exact ⟨rfl,rfl,e⟩
  ·left;simp [e] at h;subst h;exact ⟨rfl,rfl,e⟩
theorem BW {jD:Conv} {t:b_ jD} (h:0<F.waiting t.a1):cZ F t=(F,t):=by unfold cZ;rw [if_pos (.inr (.inr h))]
end
section
theorem jK (F:aN) (c:Nat):F.dm (c:Int)=F.aV[c]?:=by unfold aN.dm;rw [if_neg (by omega)];simp
end
section
section
variable {jD:Conv}
theorem cp.mH (h:cp F) (b:mH c j F=some cJ):cp cJ:=by have a:=h.step ⟨-1,c,j⟩;rw [AO b] at a;exact a
end
end
section
def fl (bw:Nat->Option aO) (q:Nat) (d:aO):Nat->Option aO:=λk=>if k=q then some d else bw k
theorem sU (bw:Nat->Option aO) (q:Nat) (d:aO):fl bw q d q=some d:=if_pos rfl
theorem rO {d:aO} (h:k≠q):fl bw q d k=bw k:=if_neg h
structure zv (vs:List aW) (bw:Nat->Option aO) (j:Nat) (l:cS):Prop where
 len:l.bR.length=l.pair.ba.length
 wx:l.bR.Pairwise (·<·)
 at_:∀ (t q:Nat),l.bR[t]?=some q->∃ v,vs[q]?=some v/\l.pair.ba[t]?=some v/\v.node.toNat=j/\bw q=none
structure gC (C:bU) (vs:List aW) (bw:Nat->Option aO):Prop where
 live:C.alive=true
 ds:∃ ds,C.batch=some ds/\ds.length=vs.length/\∀ q d,bw q=some d->ds[q]?=some d
 lane:∀ (j:Nat) (l:cS),C.aD[j]?=some l->zv vs bw j l
 left:∀ q,q<vs.length->bw q=none->∃ (j:Nat) (l:cS),C.aD[j]?=some l/\q ∈ l.bR
theorem zv.head (h:zv vs bw j l) (al:l.pair.ba=x::xs):∃ q ch,l.bR=q::ch/\vs[q]?=some x/\x.node.toNat=j/\bw q=none:=by
 have a:=h.len;rw [al] at a;cases c:l.bR with
 |nil=>rw [c] at a;cases a
 |cons q ch=>obtain ⟨v,d,b,e,f⟩:=h.at_ 0 q (by rw [c];rfl);rw [al] at b;cases b;exact ⟨q,ch,rfl,d,e,f⟩
theorem gC.more (h:gC C vs bw) (d:C.aD[j]?=some l) (f:p.ba=l.pair.ba):gC (C.comes j l p none) vs bw:=by
 have b:=cb d;refine ⟨h.live,h.ds,λi l' a=>?_,λq r ar=>?_⟩
 ·by_cases e:i=j
  ·subst e;simp [bU.comes,b] at a;subst a;have c:=h.lane _ l d;exact ⟨by show l.bR.length=p.ba.length;rw [f];exact c.len,c.wx,λt q s=>by obtain ⟨v,g,k,n,o⟩:=c.at_ t q s;exact ⟨v,g,by show p.ba[t]?=some v;rw [f];exact k,n,o⟩⟩
  ·rw [ps e] at a;exact h.lane i l' a
 ·obtain ⟨i,l',a,hm⟩:=h.left q r ar;by_cases e:i=j
  ·subst e;rw [d] at a;cases a;exact ⟨i,{ l with pair:=p },by simp [bU.comes,b],hm⟩
  ·exact ⟨i,l',by rw [ps e];exact a,hm⟩
theorem gC.done (h:gC C vs bw) (D:C.aD[j]?=some l) (al:l.pair.ba=x::xs) (G:p.ba=xs) {ch:cP} (c:l.bR=q::ch) (d:aO) :
  gC (C.comes j l p (some d)) vs (fl bw q d):=by
 have u:=cb D;have z:=h.lane j l D;obtain ⟨ds,I,hlen,B⟩:=h.ds;have F:vs[q]?=some x/\x.node.toNat=j:=by obtain ⟨cy,K,e,n,r,_⟩:=z.head al;rw [c] at e;cases e;exact ⟨n,r⟩
 have J:q<vs.length:=cb F.1;have b:=z.wx;rw [c,Ba] at b;refine ⟨h.live,⟨ds.set q d,?_,by rw [p9];exact hlen,λk e s=>?_⟩,λi l' g=>?_,λk s ar=>?_⟩
 ·simp [bU.comes,I,c]
 ·by_cases f:k=q
  ·subst f;rw [sU] at s;cases s;rw [jy (by omega)]
  ·rw [rO f] at s;rw [hW (λH=>f H.symm)];exact B k e s
 ·by_cases e:i=j
  ·subst e;simp [bU.comes,u] at g;subst g;refine ⟨?_,?_,λt k E=>?_⟩
   ·show l.bR.tail.length=p.ba.length;have:=z.len;rw [c,al] at this;rw [c,G];simpa using this
   ·show l.bR.tail.Pairwise (·<·);rw [c];exact b.2
   ·have w:ch[t]?=some k:=by have:l.bR.tail[t]?=some k:=E;rw [c] at this;exact this
    obtain ⟨v,n,r,y,A⟩:=z.at_ (t+1) k (by rw [c];simpa using w);have a:k≠q:=by have:=b.1 k (b7 w);omega
    refine ⟨v,n,?_,y,by rw [rO a];exact A⟩;show p.ba[t]?=some v;rw [al] at r;rw [G];simpa using r
  ·rw [ps e] at g;have o:=h.lane i l' g;refine ⟨o.len,o.wx,λt k E=>?_⟩;obtain ⟨v,n,r,y,A⟩:=o.at_ t k E;have a:k≠q:=λf=>by subst f;rw [F.1] at n;cases n;exact e (y.symm.trans F.2)
   exact ⟨v,n,r,y,by rw [rO a];exact A⟩
 ·have a:k≠q:=λe=>by rw [e,sU] at ar;cases ar
  rw [rO a] at ar;obtain ⟨i,l',g,hm⟩:=h.left k s ar;by_cases e:i=j
  ·subst e;rw [D] at g;cases g;rw [c] at hm;rcases e6.1 hm with f | f
   ·exact absurd f a
   ·exact ⟨i,⟨p,l.bR.tail⟩,by simp [bU.comes,u],by show k ∈ l.bR.tail;rw [c];exact f⟩
  ·exact ⟨i,l',by rw [ps e];exact g,hm⟩
theorem gC.all (h:gC C vs bw) (he:∀ (j:Nat) (l:cS),C.aD[j]?=some l->l.pair.ba=[]):∃ ds,C.batch=some ds/\ds.length=vs.length/\(∀ q d,bw q=some d->ds[q]?=some d)/\∀ q,q<vs.length->∃ d,bw q=some d:=by
 obtain ⟨ds,b,c,e⟩:=h.ds;refine ⟨ds,b,c,e,λq f=>?_⟩;cases ar:bw q with
 |some d=>exact ⟨d,rfl⟩
 |none=>obtain ⟨j,l,a,hm⟩:=h.left q f ar;have:=(h.lane j l a).len;rw [he j l a] at this;rw [nZ.1 this] at hm;cases hm
structure oc (vs:List aW) (k:Nat) (C:bU):Prop where
 lane:∀ (j:Nat) (l:cS),C.aD[j]?=some l->l.bR.length=l.pair.ba.length/\l.bR.Pairwise (·<·)/\∀ (t q:Nat),l.bR[t]?=some q->q<k/\∃ v,vs[q]?=some v/\l.pair.ba[t]?=some v/\v.node.toNat=j
 left:∀ q,q<k->∃ (j:Nat) (l:cS),C.aD[j]?=some l/\q ∈ l.bR
theorem oc.one (h:oc vs k C) (al:vs[k]?=some v) (E:v.node.toNat<C.aD.length):oc vs (k+1) (C.gu k v):=by
 refine ⟨λj l r=>?_,λq F=>?_⟩
 ·obtain ⟨cY,z,D⟩:=Ik r;obtain ⟨o,w,p⟩:=h.lane j cY z;rcases D with ⟨g,n,_⟩ | ⟨g,n,y⟩
  ·rw [g,n];exact ⟨o,w,λt q c=>by obtain ⟨a,b⟩:=p t q c;exact ⟨by omega,b⟩⟩
  ·rw [g,n];refine ⟨by simp [o],?_,λt q c=>?_⟩
   ·rw [List.pairwise_append];refine ⟨w,List.pairwise_singleton _ _,λa A b B=>?_⟩;obtain ⟨t,c⟩:=eh.1 A;have:=(p t a c).1;simp at B <;> omega
   ·by_cases s:t<cY.bR.length
    ·rw [hU s] at c;obtain ⟨a,u,b1,aA,x⟩:=p t q c;exact ⟨by omega,u,b1,by rw [hU (by omega)];exact aA,x⟩
    ·rw [hV (by omega)] at c;have f:t - cY.bR.length=0:=by have:=cb c;simp at this <;> omega
     rw [f] at c;simp at c;subst c;exact ⟨by omega,v,al,by rw [hV (by omega),<-o,f];rfl,y⟩
 ·have d:∀ i,(C.gu k v).aD[i]?=(C.aD[i]?).map λl=>if v.node.toNat=i then (⟨{ l.pair with ba:=l.pair.ba++[v] },l.bR++[k]⟩:cS) else l:=λi=>by
   unfold bU.gu;simp only [te];cases C.aD[i]? with
   |none=>rfl
   |some l=>by_cases e:v.node.toNat=i<;>simp [e]
  by_cases e:q=k
  ·subst e;refine ⟨v.node.toNat,_,by rw [d,bD E];rfl,?_⟩;simp
  ·obtain ⟨j,l,r,hm⟩:=h.left q (by omega);refine ⟨j,_,by rw [d,r];rfl,?_⟩;split
   ·exact vm _ hm
   ·exact hm
theorem oc.from {vs:List aW}:∀ (us:List aW) {k:Nat} {C:bU},oc vs k C->(∀ i,us[i]?=vs[k+i]?)->(∀ v ∈ us,v.node.toNat<C.aD.length)->oc vs (k+us.length) (C.gO k us)
 | [],k,C,h,hu,a=>h
 |u::us,k,C,h,hu,a=>by
  have b:=h.one (v:=u) (by have:=hu 0;simpa using this.symm) (a u e2);have d:(C.gu k u).aD.length=C.aD.length:=by simp [bU.gu]
  have c:=oc.from us b (λi=>by have:=hu (i+1);rw [nY] at this;rw [this];congr 1;omega) (λv al=>by rw [d];exact a v (fu _ al));rw [g7,show k+(us.length+1)=k+1+us.length by omega];exact c
theorem gC.post (u:C.alive=true) (he:∀ (j:Nat) (l:cS),C.aD[j]?=some l->l.pair.ba=[]/\l.bR=[]) (w:∀ v ∈ vs,v.node.toNat<C.aD.length):gC (C.kD vs) vs λ_=>none:=by
 have s:oc vs 0 C:=⟨λj l a=>by obtain ⟨g,n⟩:=he j l a;rw [g,n];exact ⟨rfl,List.Pairwise.nil,λt q b=>by simp at b⟩,λq c=>by omega⟩
 have h:=oc.from vs s (λi=>by rw [g6]) w;rw [g6] at h;refine ⟨?_,⟨List.replicate vs.length ⟨0,[]⟩,rfl,by simp,λq d e=>by cases e⟩,λj l a=>?_,λq c _=>h.left q c⟩
 ·have:∀ (us:List aW) (D:bU) (k:Nat),(D.gO k us).alive=D.alive:=λus=>by
   induction us with
   |nil=>intro D k;rfl
   |cons v vs x=>intro D k;exact (x (D.gu k v) (k+1)).trans rfl
  exact (this vs C 0).trans u
 ·obtain ⟨o,p,r⟩:=h.lane j l a;exact ⟨o,p,λt q b=>by obtain ⟨_,v,b1,aA,f⟩:=r t q b;exact ⟨v,b1,aA,f,rfl⟩⟩
end
section
theorem Il (C:bU) (j:Nat) (l:cS) (p:dg) (d:Option aO):(C.comes j l p d).alive=C.alive:=by cases d<;>rfl
theorem BX {a:Nat} (h:a+ws.length<=n.words.length):(n.write a ws).words.length=n.words.length:=by unfold aZ.write;simp;omega
theorem sy {a:Nat} (h:a+ws.length<=n.words.length) (i:Nat):(n.write a ws).get i=if a<=i/\i<a+ws.length then ws.getD (i - a) 0 else n.get i:=by
 unfold aZ.write aZ.get;simp only [dF];by_cases b:i<a
 ·rw [if_neg (by omega),lr,hU (by simp;omega),tg b]
 ·by_cases c:i<a+ws.length
  ·rw [if_pos ⟨by omega,c⟩,lr,hV (by simp;omega),hU (by simp;omega)];congr 2;simp;omega
  ·rw [if_neg (by omega),hV (by simp;omega),lu];congr 2;simp;omega
theorem Nf {a:Nat} (h:a<n.words.length) (v:Int) (i:Nat):({ n with words:=n.words.set a v }:aZ).get i=if i=a then v else n.get i:=by
 unfold aZ.get;simp only [dF];by_cases e:i=a
 ·subst e;rw [if_pos rfl,jy h];rfl
 ·rw [if_neg e,hW (λb=>e b.symm)]
theorem K5 {a:Nat} (h:a<n.words.length):n.read a 1=[n.get a]:=by unfold aZ.read;simp only [fU];rw [oU h];have b:=aZ.get_some h;rw [bD h] at b;simp at b;simp [b]
theorem qS {v:aG} (c:1<=v.count) (d:v.bX % 8+v.count<=8) (b:0<=v.bX):v.pieces=[(v.bX,v.count)]:=by
 unfold aG.pieces;obtain ⟨f,a⟩:∃ f,v.count.toNat=f+1:=⟨v.count.toNat - 1,by omega⟩;rw [a,hz,if_neg (by omega)];have e:(if 8 - v.bX % 8<v.count then 8 - v.bX % 8 else v.count)=v.count:=by
  split
  ·omega
  ·rfl
 rw [e];cases f with
 |zero=>rfl
 |succ f=>rw [hz,if_pos (by omega)]
structure ic (N L:Nat) (x:aW):Prop where
 valid:∀ m:Int,N<=m->m<=5->x.v.valid m L=0
 node:0<=x.node/\x.node<N
 key:x.key=1
 ef:x.ef=1
theorem u7 (al:p.ba=x::xs) (a:p.refusal x n=0) :
  p.step n=if p.bF+1<x.v.pieces.length then ({ p with bF:=p.bF+1,words:=p.words++(exec x (x.v.pieces.getD p.bF (0,0)) n).2 },(exec x (x.v.pieces.getD p.bF (0,0)) n).1,none)
   else (p.done,(exec x (x.v.pieces.getD p.bF (0,0)) n).1,some ⟨0,p.words++(exec x (x.v.pieces.getD p.bF (0,0)) n).2⟩):=by
 unfold dg.step;rw [al];simp only;rw [if_neg (by rw [a];simp)]
theorem C0 (c:fL p) (al:p.ba=x::xs) (d:p.refusal x n=0) {pc:Int×Int} (b:x.v.pieces=[pc]):p.step n=(p.done,(exec x pc n).1,some ⟨0,(exec x pc n).2⟩):=by
 have a:=c.hO x xs al;rw [b] at a;have he:p.bF=0:=by simp at a;exact a
 rw [u7 al d,b,he];simp [c.zero he]
structure o_ (a k:Nat) (n n':aZ):Prop where
 len:n'.words.length=n.words.length
 down:n'.down=n.down
 get:∀ i,i<a\/a+k<=i->n'.get i=n.get i
theorem K6 (a:x.kind=3) (pc:Int×Int):exec x pc n=(n.gm x.at_ x.old x.new,[n.get x.at_.toNat]):=by unfold exec;rw [if_neg (by omega),if_neg (by omega),if_pos a]
theorem JD (a:x.kind=1) (c:0<=x.at_) (b:x.at_.toNat<n.words.length):exec x (x.at_,1) n=(n,[n.get x.at_.toNat]):=by
 unfold exec;rw [if_pos a];have:n.read x.at_ 1=[n.get x.at_.toNat]:=by have h:=K5 b;rw [show ((x.at_.toNat:Nat):Int)=x.at_ by omega] at h;exact h
 simp only [this]
end
end Go.Proofs.YtmkljjbioomepaaGreat
