import Derived.Test.YtmkljjbioomepaaGreate21
import Derived.Test.YtmkljjbioomepaaGreate17
set_option linter.all false
set_option maxHeartbeats 4000000
set_option maxRecDepth 100000
namespace Go.Proofs.YtmkljjbioomepaaGreat
open Go.Proofs.Tryz Go.bn
variable {A B L:a2} {K:(a2)->Prop} {b aM gc i j tb:Nat} {c:Int} {gA:an} {u bo w:al}
section
def cX (j:b_) (G:List (List aC)):List aG×(Int×Int)×Bool:=
 if j.valid≠0 then ([],(j.valid,0),true) else match (runM j G).ask with
 |some vs=>(vs,(0,0),false)
 |none=>if (runM j G).di=true\/(runM j G).a7≠[] then ([],(6,0),true) else ([],p5 (runM j G),true)
theorem Ci {T:ee} (au:av w tb T.cells og):ba 118 [ptr tb] w λx w'=>x=.tuple #[.slice T.aa T.cW T.ac,.bool (decide ((T.cW:Int)>0))]/\ai w w':=by
 refine bc Tryz.func118 ?_;rw [ptr,S7];rintro w1 b;have a:ai w w1:=by rw [b];exact cL _
 clear b;exact ⟨λy=>ai w1 y,ao.refl _ _,_,_,_,λy c=>(ai.ak (a.new c) au).cell (i:=1) rfl,_,_,_,λy c=>(ai.ak (a.new c) au).cell (i:=1) rfl,rfl,a⟩
theorem Cj {T:ee} (au:av w tb T.cells og):ba 119 [ptr tb] w λx w'=>x=.bool (T.di || decide ((T.dA:Int)>0))/\ai w w':=by
 refine bc Tryz.func119 ?_;rw [ptr,Si];refine ⟨T.di,au.cell (i:=2) rfl,?_⟩;cases T.di
 ·exact dw rfl ⟨_,_,_,au.cell (i:=0) rfl,rfl,ao.refl _ _⟩
 ·exact fK rfl ⟨rfl,ao.refl _ _⟩
def qy (w:al) (j:b_) (G:List (List aC)) (v:a0) (u:al):Prop:=
 ∃ (aa:an) (ac:Nat) (a:List aF),v=.tuple #[.slice aa a.length ac,bq.val ⟨(cX j G).2.1.1,(cX j G).2.1.2⟩,.bool (cX j G).2.2]/\ai w u/\bg u aa (dz a).flatten/\(∀ k,aL aa k->w.heap.size<=k)/\dX (λk=>k<w.heap.size) u a (cX j G).1
theorem qy.nil {w u:al} {j:b_} {G:List (List aC)} {o:Int×Int} {b:Bool} (h:cX j G=([],o,b)) (c:ai w u):qy w j G (.tuple #[.slice none 0 0,bq.val ⟨o.1,o.2⟩,.bool b]) u:=
 ⟨none,0,[],by rw [h];rfl,c,.inl rfl,λk a=>absurd a mM,by rw [h];exact ⟨rfl,λi v x aj=>by simp at aj⟩⟩
theorem Ds {o:bq} (au:av u b o.cells er) {K:bq->aE} (l:∀ j,ao (λk=>k=b) u j->K o j) :
  ∀ w1,w1=u.drew->∃ i:aE,i w1/\bq.ex λr=>(∀ y,i y->b7 y ⟨b,0,none⟩ 0 r.cells)/\dR w1 ⟨b,0,none⟩ 0 r.cells/\∀ a,a=cl w1 ⟨b,0,none⟩ 0 r.cells->bq.ex λres=>b7 a ⟨b,0,none⟩ 0 res.cells/\a=a/\K res a:=by
 rintro w1 d;have c:ai u w1:=by rw [d];exact cL _
 clear d;have f:=ai.ak c au;refine ⟨λy=>ai w1 y,ao.refl _ _,bq.aS o ⟨λy n=>bI (ai.ak n f) rfl,?_⟩⟩;exact dC f rfl (bq.single _) λa h g=>bq.aS o ⟨bI h rfl,rfl,l a ((ao.bZ c).trans g λ_ _ e=>e)⟩
theorem NQ {o:bq} (au:av u b o.cells er) (c f:Int) {K:bq->aE} (n:∀ d,ao (λk=>k=b) u d->K ⟨c,f⟩ d) :
  dR u ⟨b,0,none⟩ 0 [(.int .i64 c),(.int .i64 f)]/\∀ j,j=cl u ⟨b,0,none⟩ 0 [(.int .i64 c),(.int .i64 f)]->∀ w1,w1=j.drew->∃ l:aE,l w1/\bq.ex λr=>(∀ y,l y->b7 y ⟨b,0,none⟩ 0 r.cells)/\dR w1 ⟨b,0,none⟩ 0 r.cells/\∀ a,a=cl w1 ⟨b,0,none⟩ 0 r.cells->bq.ex λres=>b7 a ⟨b,0,none⟩ 0 res.cells/\a=a/\K res a:=
 dC au (vs:=bq.cells ⟨c,f⟩) rfl (bq.single _) λj i g=>Ds i λd h=>n d (g.trans h λ_ _ e=>e)
theorem LA {r:cU} {j:b_} (UM:oW w r j) (aA:j.valid=0->n7 j) {dA:Nat} {G:List (List aC)} (UX:hj A w gA G) (UL:dA=G.length) (UK:dA<=gc) :
  ba 92 [r.val,.slice gA dA gc] w (qy w j G):=by
 refine bc Tryz.func92 ?_;rw [T6];rintro b1 bH UF Ur;obtain ⟨l,Up⟩:=bk UF Ur;have l:av bH b1 r.cells 39:=l;clear Ur;rintro az bY UG Us;obtain ⟨t,n⟩:=bk UG Us;have t:av bY az (bq.cells ⟨0,0⟩) er:=t;clear Us;have B:=Up.new n;have U5:=Up.size;have UZ:=l.lt;have U0:=t.lt;refine cU.aS r ⟨bI (ai.ak n l) rfl,?_⟩;refine aD (KJ (UM.new B)) ?_;rintro v br ⟨rfl,p⟩;have C:=B.new p;have J:=ai.ak p t;refine ⟨_,rfl,dt (λaj=>?_) (λaj=>?_)⟩
 ·refine lM J rfl j.valid 0 λVj UN=>qy.nil (o:=(j.valid,0)) (b:=true) ?_ (C.trans UN λk c e=>by omega)
  unfold cX;rw [if_pos aj]
 have g:=Lt aj;have Uj:=aA aj;obtain ⟨bJ,Un⟩:∃ bJ,j.v.mem[0]?=some bJ:=⟨_,bM g.mem.1⟩;rintro UP Ut;have q:ai br UP:=by rw [Ut];exact cL _
 clear Ut;have D:=C.new q;have I:=ai.ak ((n.new p).new q) l;refine ⟨λy=>ai UP y,ao.refl _ _,cU.aS r ⟨λy Vb=>bI (ai.ak Vb I) rfl,?_⟩⟩;refine aD (CP UP gA dA gc) ?_;rintro v Vc ⟨tb,rfl,U',Ux,f⟩;refine ⟨_,rfl,f,?_⟩;rintro Z Vd UH Uu;obtain ⟨Y,s⟩:=bk UH Uu;have Y:av Vd Z (k_ r tb ⟨0,0,false⟩) lE:=Y;clear Uu;have U9:=f.size;have UR:=D.size;have U6:=n.size;have U7:=p.size;have U8:=q.size;have U2:=Ux.lt;refine ⟨f.new s,cO.aS r.View ⟨bI (ai.ak (f.new s) I) rfl,?_⟩⟩;obtain ⟨Vg,X⟩:=UM.view;have E:=(D.new f).new s;refine aD (AI (X.new E) Un) ?_;rintro v u8 ⟨rfl,Q⟩;have Uz:=ai.ak Q Y;refine aO.aS bJ ⟨true,rfl,fI Uz (by simp [k_,aO.cells,cU.cells]) (aO.single _),?_⟩;rintro x W;have UA:av x Z (k_ r tb bJ) lE:=by rw [W];exact Uz.cl (o:=8) (i:=0) (vs:=bJ.cells)
 have Uk:ao (λk=>k=Z) u8 x:=by rw [W];exact ht _ _ _ _ _
 clear W;have F:ai w x:=(E.new Q).trans Uk λk c e=>by omega
 have h:ai Vc x:=(s.new Q).trans Uk λk c e=>by omega
 have Uy:av x tb (ee.cells ⟨gA,dA,gc,none,0,0,false⟩) og:=ai.ak h Ux;have Uw:av x az (bq.cells ⟨0,0⟩) er:=ai.ak ((q.new f).new h) J;have UI:eR w x Z tb r bJ j:=⟨UA,UM,g,Un,F,by omega,by omega,by omega⟩;have UW:ek A w x tb ⟨gA,dA,gc,none,0,0,false⟩ G:=⟨Uy,UX,UL,UK⟩;have P:=NP UI Uj UW ⟨rfl,rfl⟩;refine aD P ?_;rintro v Ve ⟨rfl,V⟩;have U_:=h.size;have UB:av Ve az (bq.cells ⟨0,0⟩) er:=V.ax.ak Uw (by omega);refine bq.aS ⟨(p5 (runM j G)).1,(p5 (runM j G)).2⟩ ⟨rfl,?_⟩;refine dC UB rfl (bq.single _) λUS UC Ul=>?_
 have H:=(V.after (u:=w) (ao.bZ F)).put (B':=x.heap.size) (ao.refl _ _) (ao.refl _ _) Ul (by omega) (by omega) (by omega) (dd _);have R:ai w US:=(ao.refl _ w).trans H.ax λk c e=>by omega
 have M:av US Z (k_ r tb bJ) lE:=Ul.ak (V.ax.ak UA (by omega)) (by omega);obtain ⟨_,T,N,Ui,O⟩:=H;refine ⟨_,M.cell (i:=7) rfl,?_⟩;refine aD (Ci N.ak) ?_;rintro v Vk ⟨rfl,d⟩;have K:=ai.ak d UC;cases a:(runM j G).ask with
 |some vs=>
  rw [a] at O;obtain ⟨Vh,w1,UU,Vi,UQ⟩:=O;have UE:=UQ.len;refine ⟨_,_,_,_,rfl,fK (by simp;omega) ?_⟩;refine lM K rfl 0 0 λUT Um=>?_
  have UV:bD w1 UT T.aa T.cW T.ac vs:=(UQ.new d).ax Um λk e=>by omega
  obtain ⟨⟨UD,U3,Uv⟩,U1,UJ⟩:=UV;have U4:=Uv.1;have Va:=UU.size;have Uq:cX j G=(vs,(0,0),false):=by unfold cX;rw [if_neg (by simpa using aj),a]
  refine ⟨T.aa,T.ac,UD,?_,(R.new d).trans Um λk c e=>by omega,U3.rd,λk UY=>by have:=UJ k UY;omega,?_⟩
  ·rw [Uq,UE,U4]
  ·rw [Uq];exact Uv.ax (ao.refl _ _) λk c e=>.inl (by omega)
 |none=>
  rw [a] at O;refine ⟨_,_,_,_,rfl,dw (by simp;omega) ?_⟩;refine ⟨_,(ai.ak d M).cell (i:=7) rfl,?_⟩;refine aD (Cj (ai.ak d N.ak)) ?_;rintro v UT ⟨rfl,S⟩;have L:=ai.ak S K;have z:=N.dA;refine ⟨_,rfl,?_⟩;cases hm:(T.di || decide ((T.dA:Int)>0)) with
  |true=>
   refine NQ L 6 0 λVf U=>qy.nil (o:=(6,0)) (b:=true) ?_ (((R.new d).new S).trans U λk c e=>by omega)
   unfold cX;rw [if_neg (by simpa using aj),a];refine if_pos ?_;rw [Ui] at hm;rw [r2] at hm;rcases hm with hm | hm
   ·exact .inl hm
   ·right;intro e;rw [e] at z;simp at hm z;omega
  |false=>
   refine Ds L λVf U=>qy.nil (o:=p5 (runM j G)) (b:=true) ?_ (((R.new d).new S).trans U λk c e=>by omega)
   unfold cX;rw [if_neg (by simpa using aj),a];refine if_neg ?_;rw [Ui] at hm;obtain ⟨Uo,UO⟩:=Bool.or_eq_false_iff.1 hm;rintro (e | e)
   ·rw [e] at Uo;cases Uo
   ·apply e;apply fb;simp at UO <;> omega
end
section
def oh (v:aG):Prop:=1<=v.v.count
theorem oh.pieces {v:aG} (h:oh v):0<v.v.pieces.length:=by refine r0.2 (FD _ _ _ h ?_);unfold oh at h;omega
structure gk (p:cF):Prop where
 l_:∀ v ∈ p.a6,oh v
 idle:p.a6=[]->p.bO=0
 zero:p.bO=0->p.words=[]
 h':p.h'
theorem gk.done {p:cF} (h:gk p):gk p.done:=by
 refine ⟨λv aj=>h.l_ v (qi aj),λ_=>rfl,λ_=>rfl,?_⟩
 intro x xs a;have hm:x ∈ p.a6.tail:=by rw [show p.a6.tail=x::xs from a];exact d_
 exact (h.l_ x (qi hm)).pieces
theorem gk.step {p:cF} (h:gk p) (n:aH):gk (p.step n).1:=by
 unfold cF.step;split
 ·exact h
 ·rename_i x xs c;dsimp only;split
  ·exact h.done
  ·split
   ·rename_i a;refine ⟨h.l_,λe=>?_,λe=>by simp at e,?_⟩
    ·rw [c] at e;cases e
    ·intro y ys d;have:x=y:=by have b:p.a6=y::ys:=d;rw [c] at b;exact (List.cons.inj b).1
     subst this;exact a
   ·exact h.done
theorem gk.post {p:cF} (h:gk p) {v:aG} (aj:oh v):gk { p with a6:=p.a6++[v] }:=by
 refine ⟨λx a=>?_,λe=>by simp at e,h.zero,?_⟩
 ·rcases gH.1 a with b | b
  ·exact h.l_ x b
  ·simp at b;rw [b];exact aj
 ·intro x xs a;cases c:p.a6 with
  |nil=>simp [c] at a;rw [<-a.1];show p.bO<_;rw [h.idle c];exact aj.pieces
  |cons y ys=>simp [c] at a;rw [<-a.1];exact h.h' y ys c
theorem AM (p:cF) (n:aH):(p.step n).1.aP=p.aP/\(p.step n).1.inc=p.inc/\(p.step n).1.node=p.node:=by
 unfold cF.step;split
 ·exact ⟨rfl,rfl,rfl⟩
 ·dsimp only;split
  ·exact ⟨rfl,rfl,rfl⟩
  ·split<;>exact ⟨rfl,rfl,rfl⟩
theorem It (p:cF) (n:aH):((p.step n).2.2=none/\(p.step n).1.a6=p.a6)\/(∃ d,(p.step n).2.2=some d/\(p.step n).1.a6=p.a6.tail/\p.a6≠[]):=by
 unfold cF.step;split
 ·exact .inl ⟨rfl,rfl⟩
 ·rename_i a;dsimp only;split
  ·exact .inr ⟨_,rfl,rfl,by rw [a];simp⟩
  ·split
   ·exact .inl ⟨rfl,rfl⟩
   ·exact .inr ⟨_,rfl,rfl,by rw [a];simp⟩
theorem Gt {p:cF} {x:aG} {n:aH} (h:p.refusal x n=0):n.down=false/\x.v.valid 5 (n.words.length / 8:Nat)=0:=by
 unfold cF.refusal at h;split at h
 ·omega
 ·rename_i aA;split at h
  ·omega
  ·rename_i aj;exact ⟨by simpa using aA,by omega⟩
theorem AN {x:aG} {n:aH} (aj:x.v.valid 5 (n.words.length / 8:Nat)=0) {pc:Int×Int} (c:pc ∈ x.v.pieces):(exec x pc n).1.words.length=n.words.length:=by
 obtain ⟨d,a⟩:=v_ aj;obtain ⟨i1,i2,i3,i4,i5,i6,i7,i8,i9,i10,i11⟩:=ox a;unfold aF.b6 at i10;have b:=vR _ _ _ (by omega) pc c;unfold exec;split
 ·rfl
 ·split
  ·simp only [aH.write,c8,gR,jY];omega
  ·split
   ·simp only [aH.eU];split<;>simp
   ·split
    ·simp [aH.add]
    ·rfl
theorem BJ {p:cF} (h:gk p) (n:aH):(p.step n).2.1.words.length=n.words.length:=by
 unfold cF.step;split
 ·rfl
 ·rename_i x xs b;dsimp only;split
  ·rfl
  ·rename_i c;have aj:=(Gt (p:=p) (x:=x) (n:=n) (by omega)).2;have a:=h.h' x xs b;have hm:x.v.pieces.getD p.bO (0,0) ∈ x.v.pieces:=by rw [cK,bM a];exact jw _
   split
   ·exact AN aj hm
   ·exact AN aj hm
theorem wJ:∀ {ls:List cH} {j:Nat} {l l':cH},ls[j]?=some l->f0 (ls.set j l')+l.pair.a6.length=f0 ls+l'.pair.a6.length
 | [],j,l,l',h=>by simp at h
 |a::ls,0,l,l',h=>by simp at h;subst h;simp [f0];omega
 |a::ls,j+1,l,l',h=>by have:=wJ (ls:=ls) (j:=j) (l:=l) (l':=l') (by simpa using h);simp [f0] at this ⊢;omega
theorem ti:∀ {ls:List cH},f0 ls=0->∀ l ∈ ls,l.pair.a6=[]
 | [],_,l,h=>by simp at h
 |a::ls,b,l,h=>by
  simp [f0] at b;rcases dy.1 h with rfl | h
  ·exact b.1
  ·exact ti (by simp [f0];exact b.2) l h
structure Good (F:aB):Prop where
 ok:nb F
 cC:∀ C ∈ F.aU,∀ l ∈ C.ay,gk l.pair
 or:∀ p ∈ F.bP,gk p
theorem aB.nz {F:aB} {C:bf} (h:F.cC c=some C):0<=c/\F.aU[c.toNat]?=some C:=by
 unfold aB.cC at h;split at h
 ·cases h
 ·exact ⟨by omega,h⟩
theorem Good.fS {F:aB} (h:Good F) {C C':bf} (f:F.aU[i]?=some C) (b:r7 F.nodes.length i C') (c:∀ l ∈ C'.ay,gk l.pair):Good { F with aU:=F.aU.set i C' }:=by
 refine ⟨⟨h.ok.lines,h.ok.nodes,h.ok.words,by simpa using h.ok.aU,λk D a=>?_,h.ok.ea⟩,λD a=>?_,h.or⟩
 ·simp only [iC] at a;split at a
  ·split at a
   ·rename_i e _;cases a;rw [<-e];exact b
   ·cases a
  ·exact h.ok.aP k D a
 ·rcases ks a with d | rfl
  ·exact h.cC D d
  ·exact c
theorem Good.mU {F:aB} (h:Good F) (i:Nat) {n':aH} (b:n'.words.length=F.lines * 8):Good { F with nodes:=F.nodes.set i n' }:=by
 refine ⟨⟨h.ok.lines,by simpa using h.ok.nodes,λn hm=>?_,h.ok.aU,by simpa using h.ok.aP,by simpa using h.ok.ea⟩,h.cC,h.or⟩;rcases ks hm with a | rfl
 ·exact h.ok.words n a
 ·exact b
theorem Good.take {F:aB} (h:Good F) (c:Int):Good (F.take c).2:=by
 unfold aB.take;cases p:F.cC c with
 |none=>exact h
 |some C=>
  obtain ⟨r,d⟩:=aB.nz p;dsimp only;split
  ·exact h
  ·cases s:C.batch with
   |none=>exact h
   |some ds=>
    dsimp only;split
    ·exact h
    ·rename_i hw;have a:=h.ok.aP _ _ d;have q:f0 C.ay=0:=by have:=a.waiting;omega
     refine h.fS d ⟨a.inc,a.ay,λj l i=>?_,a.waiting,?_,λn e=>by cases e⟩ (h.cC C (cj d))
     ·have b:=a.lane j l i;have f:=ti q l (cj i);refine ⟨b.aP,b.inc,b.node,b.bt,λk g=>?_,b.h'⟩;have:=b.bt;rw [f] at this;have:l.bt=[]:=fb this;rw [this] at g;cases g
     ·have:=a.waiting;have o:C.waiting=0:=by omega
      rw [show ({ C with batch:=none }:bf).waiting=C.waiting from rfl,o];exact ⟨Nat.zero_le _,by simp⟩
theorem J_ {F:aB} (h:Good F) {ds:List aC} (a:(F.take c).1=some ds):ds.length<=1024:=by
 unfold aB.take at a;cases d:F.cC c with
 |none=>rw [d] at a;cases a
 |some C=>
  rw [d] at a;dsimp only at a;obtain ⟨f,e⟩:=aB.nz d;split at a
  ·cases a
  ·cases b:C.batch with
   |none=>rw [b] at a;cases a
   |some es=>
    rw [b] at a;dsimp only at a;split at a
    ·cases a
    ·cases a;have:=(h.ok.aP _ _ e).batch.2;rw [b] at this;exact this
structure nt (n i:Nat) (inc:Int) (k:Nat) (ls:List cH):Prop where
 len:ls.length=n
 lane:∀ (j:Nat) (l:cH),ls[j]?=some l->xL i inc j k l/\gk l.pair
 f0:f0 ls=k
def rL (l:cH) (k:Nat) (v:aG):cH:=⟨{ l.pair with a6:=l.pair.a6++[v] },l.bt++[k]⟩
theorem T7 {C:bf} {k:Nat} {v:aG} {l:cH} (c:C.ay[v.node.toNat]?=some l):(C.eK k v).ay=C.ay.set v.node.toNat (rL l k v):=by
 show C.ay.modify _ _=_;apply kr;intro j;obtain ⟨a,b⟩:=kY.1 c;rw [qf,iC];by_cases e:v.node.toNat=j
 ·subst e;simp [a,b,rL]
 ·simp [e]
theorem xE {α:Type} {l:List α} {x y:α} (a:i<l.length) (h:(l.set i x)[j]?=some y):(i=j/\y=x)\/(i≠j/\l[j]?=some y):=by
 by_cases e:i=j
 ·subst e;rw [ei a] at h;exact .inl ⟨rfl,(p_ h).symm⟩
 ·rw [gg e] at h;exact .inr ⟨e,h⟩
theorem nt.post {n i:Nat} {inc:Int} {k:Nat} {C:bf} (h:nt n i inc k C.ay) {v:aG} (p:0<=v.node) (r:v.node<n) (aj:oh v):nt n i inc (k+1) (C.eK k v).ay:=by
 have b:v.node.toNat<C.ay.length:=by rw [h.len];omega
 have f:C.ay[v.node.toNat]?=some C.ay[v.node.toNat]:=bM b;rw [T7 f];generalize C.ay[v.node.toNat]=c3 at f;refine ⟨by simpa using h.len,λj l g=>?_,?_⟩
 ·rcases xE b g with ⟨e,rfl⟩ | ⟨e,g⟩
  ·obtain ⟨a,d⟩:=h.lane _ _ f;refine ⟨⟨a.aP,a.inc,by rw [<-e];exact a.node,by simp [rL,a.bt],λq o=>?_,(d.post aj).h'⟩,d.post aj⟩;rcases gH.1 o with c | c
   ·have:=a.low q c;omega
   ·simp at c <;> omega
  ·obtain ⟨a,d⟩:=h.lane j l g;exact ⟨⟨a.aP,a.inc,a.node,a.bt,λq o=>by have:=a.low q o;omega,a.h'⟩,d⟩
 ·have:=wJ (l':=rL c3 k v) f;have s:(rL c3 k v).pair.a6.length=c3.pair.a6.length+1:=by simp [rL]
  have c:=h.f0;omega
theorem nt.EL {n i:Nat} {inc:Int}:∀ (vs:List aG) (k:Nat) (C:bf),nt n i inc k C.ay->(∀ v ∈ vs,0<=v.node/\v.node<n/\oh v)->nt n i inc (k+vs.length) (C.eS k vs).ay
 | [],k,C,h,_=>h
 |v::vs,k,C,h,aj=>by
  obtain ⟨a,b,c⟩:=aj v d_;have:=nt.EL vs (k+1) (C.eK k v) (h.post a b c) λx d=>aj x (e2 _ d)
  rw [bf.eS,fU,Nat.add_comm vs.length 1,<-p7];exact this
theorem y7:∀ (vs:List aG) (k:Nat) (C:bf),(C.eS k vs).alive=C.alive/\(C.eS k vs).inc=C.inc
 | [],_,_=>⟨rfl,rfl⟩
 |v::vs,k,C=>by rw [bf.eS];exact y7 vs (k+1) (C.eK k v)
theorem Fx {nodes lines:Int}:∀ {vs:List aG},gy nodes lines vs=0->∀ v ∈ vs,v.v.valid nodes lines=0
 | [],_,v,aj=>by simp at aj
 |x::vs,h,v,aj=>by
  unfold gy at h;split at h
  ·rename_i a;exact absurd h a
  ·rename_i a;rcases dy.1 aj with rfl | aj
   ·omega
   ·exact Fx h v aj
theorem Good.post {F:aB} (h:Good F) (c:Int) (vs:List aG):Good (F.post c vs).2:=by
 unfold aB.post;cases B:F.cC c with
 |none=>exact h
 |some C=>
  obtain ⟨I,k⟩:=aB.nz B;have e:=h.ok.aP _ _ k;dsimp only;split
  ·exact h
  rename_i A;split
  ·exact h
  rename_i u;split
  ·exact h
  rename_i G;split
  ·exact h
  rename_i H;split
  ·exact h
  rename_i n;have g:C.batch=none:=by cases z:C.batch with | none=>rfl | some x=>rw [z] at u;simp at u
  have f:C.alive=true:=by simpa using A
  have s:C.waiting=0:=by have:=e.batch.1;rw [g] at this;simpa using this
  have p:f0 C.ay=0:=by rw [<-e.waiting];exact s
  have r:∀ v ∈ vs,0<=v.node/\v.node<F.nodes.length/\oh v:=by intro v aj;obtain ⟨w,y⟩:=v_ (Fx (Decidable.not_not.1 n) v aj);obtain ⟨i1,i2,i3,i4,i5,i6,i7⟩:=ox y;exact ⟨i5,i6,w⟩
  have o:C.ay.length=F.nodes.length:=by rw [e.ay,f];rfl
  have hinv:nt F.nodes.length c.toNat C.inc 0 C.ay:=by refine ⟨o,λj l d=>?_,p⟩;have b:=e.lane j l d;refine ⟨⟨b.aP,b.inc,b.node,b.bt,λq E=>?_,b.h'⟩,h.cC C (cj k) l (cj d)⟩;have t:=b.low q E;rw [g] at t;simp at t
  have a:=nt.EL vs 0 C hinv r;rw [gG] at a;obtain ⟨s1,s2⟩:=y7 vs 0 C;refine h.fS k ⟨?_,?_,λj l d=>?_,?_,?_,?_⟩ λl d=>?_
  ·show 0<=(C.eS 0 vs).inc/\(C.eS 0 vs).inc<=59;rw [s2];exact e.inc
  ·show (C.eS 0 vs).ay.length=if (C.eS 0 vs).alive then _ else _;rw [s1,f,a.len];rfl
  ·have:=(a.lane j l d).1;show xL c.toNat (C.eS 0 vs).inc j _ l;rw [s2];simpa [bf.jL] using this
  ·show vs.length=f0 (C.eS 0 vs).ay;rw [a.f0]
  ·show vs.length<=_/\_;simp [bf.jL];omega
  ·intro ds i;simp [bf.jL] at i;rw [<-i];simp;omega
  ·obtain ⟨j,D⟩:=gh.1 d;exact (a.lane j l D).2
theorem r7.comes {n i:Nat} {C:bf} (b:r7 n i C) {j:Nat} {l:cH} (s:C.ay[j]?=some l) (nd:aH) (y:gk l.pair):r7 n i (C.comes j l (l.pair.step nd).1 (l.pair.step nd).2.2):=by
 have c:=b.lane j l s;have r:=(kY.1 s).1;obtain ⟨s1,s2,u⟩:=AM l.pair nd;have h:=y.step nd;rcases It l.pair nd with ⟨t,g⟩ | ⟨d,t,g,w⟩
 ·rw [t];refine ⟨b.inc,?_,λk l' a=>?_,?_,b.batch,b.full⟩
  ·show (C.ay.set j _).length=_;rw [je];exact b.ay
  ·rcases xE r a with ⟨e,rfl⟩ | ⟨e,a⟩
   ·exact ⟨s1.trans c.aP,s2.trans c.inc,by rw [<-e];exact u.trans c.node,by show l.bt.length=(l.pair.step nd).1.a6.length;rw [c.bt,g],c.low,h.h'⟩
   ·exact b.lane k l' a
  ·have:=wJ (l':={ l with pair:=(l.pair.step nd).1 }) s;show C.waiting=f0 (C.ay.set j { l with pair:=(l.pair.step nd).1 });have hw:=b.waiting;have x:({ l with pair:=(l.pair.step nd).1 }:cH).pair.a6.length=l.pair.a6.length:=by show (l.pair.step nd).1.a6.length=_;rw [g]
   omega
 ·rw [t];have z:0<l.pair.a6.length:=r0.2 w;have p:((C.comes j l (l.pair.step nd).1 (some d)).batch.getD []).length=(C.batch.getD []).length:=by cases o:C.batch<;>simp [bf.comes,o]
  refine ⟨b.inc,?_,λk l' a=>?_,?_,?_,?_⟩
  ·show (C.ay.set j _).length=_;rw [je];exact b.ay
  ·rw [p];rcases xE r a with ⟨e,rfl⟩ | ⟨e,a⟩
   ·refine ⟨s1.trans c.aP,s2.trans c.inc,by rw [<-e];exact u.trans c.node,?_,λq A=>c.low q (qi A),h.h'⟩;show l.bt.tail.length=(l.pair.step nd).1.a6.length;rw [g,n0,n0,c.bt]
   ·exact b.lane k l' a
  ·have:=wJ (l':=⟨(l.pair.step nd).1,l.bt.tail⟩) s;show C.waiting - 1=f0 (C.ay.set j ⟨(l.pair.step nd).1,l.bt.tail⟩);have hw:=b.waiting;have x:(⟨(l.pair.step nd).1,l.bt.tail⟩:cH).pair.a6.length=l.pair.a6.length - 1:=by show (l.pair.step nd).1.a6.length=_;rw [g,n0]
   omega
  ·rw [p];have:=b.batch;show C.waiting - 1<=_/\_;omega
  ·intro ds f;cases o:C.batch with
   |none=>simp [bf.comes,o] at f
   |some es=>simp [bf.comes,o] at f;rw [<-f,je];exact b.full es o
theorem HO {C:bf} {l:cH} {nd:aH} (b:gk l.pair) (c:∀ l ∈ C.ay,gk l.pair):∀ l' ∈ (C.comes j l (l.pair.step nd).1 (l.pair.step nd).2.2).ay,gk l'.pair:=by
 intro l' a;cases aA:(l.pair.step nd).2.2 with
 |none=>
  rw [aA] at a;rcases ks a with h | rfl
  ·exact c l' h
  ·exact b.step nd
 |some d=>
  rw [aA] at a;rcases ks a with h | rfl
  ·exact c l' h
  ·exact b.step nd
theorem Good.bP {F:aB} (h:Good F) {os:List cF} (b:∀ p ∈ os,(0<=p.node/\p.node<F.nodes.length)/\gk p):Good { F with bP:=os }:=
 ⟨⟨h.ok.lines,h.ok.nodes,h.ok.words,h.ok.aU,h.ok.aP,λp a=>⟨(b p a).1.1,(b p a).1.2,(b p a).2.h'⟩⟩,h.cC,λp a=>(b p a).2⟩
theorem Good.hC {F:aB} (h:Good F):∀ p ∈ F.bP,(0<=p.node/\p.node<F.nodes.length)/\gk p:=λp a=>⟨⟨(h.ok.ea p a).1,(h.ok.ea p a).2.1⟩,h.or p a⟩
theorem Good.drop {F:aB} (h:Good F) (c:Int):Good (F.drop c).2:=by
 unfold aB.drop;split
 ·exact h
 ·exact h.bP λp a=>h.hC p (z2 a)
theorem Good.jb {F:aB} (h:Good F) (i:Nat):Good (F.jb i).2:=by
 unfold aB.jb;split
 ·exact h
 ·rename_i p g;split
  ·exact h
  ·rename_i n f;dsimp only;have hm:=cj g;have c:=h.or p hm;have hw:=h.ok.words n (cj f);have d:=h.mU p.node.toNat (n':=(p.step n).2.1) (by rw [BJ c];exact hw);have a:=(h.hC p hm).1;have j:=(AM p n).2.2;refine d.bP (os:=if (p.step n).1.a6.length=0 then F.bP.eraseIdx i else F.bP.set i (p.step n).1) λq b=>?_
   have hlen:(F.nodes.set p.node.toNat (p.step n).2.1).length=F.nodes.length:=by simp
   show (0<=q.node/\q.node<((F.nodes.set p.node.toNat (p.step n).2.1).length:Int))/\_;rw [hlen];split at b
   ·exact h.hC q (z2 b)
   ·rcases ks b with e | rfl
    ·exact h.hC q e
    ·exact ⟨by rw [j];exact a,c.step n⟩
theorem Good.step {F:aB} (h:Good F) (x:fw):Good (F.step x).2:=by
 unfold aB.step;split
 ·exact h.jb _
 split
 ·exact h
 split
 ·exact h
 rename_i C e;obtain ⟨g,a⟩:=aB.nz e;split
 ·exact h
 split
 ·rename_i l n c f;split
  ·exact h
  dsimp only;have hm:=cj a;have b:=h.cC C hm l (cj c);have hw:=h.ok.words n (cj f);have d:=h.mU x.node.toNat (n':=(l.pair.step n).2.1) (by rw [BJ b];exact hw);refine d.fS a ?_ (HO b (h.cC C hm));have:=(h.ok.aP _ _ a).comes c n b;simpa using this
 ·exact h
theorem Good.die {F:aB} (h:Good F) (c:Int):Good (F.die c).2:=by
 unfold aB.die;cases q:F.cC c with
 |none=>exact h
 |some C=>
  obtain ⟨t,b⟩:=aB.nz q;have f:=h.ok.aP _ _ b;dsimp only;split
  ·exact h
  ·have k:=h.fS b (C':={ C with alive:=false,ay:=[],batch:=none,waiting:=0 }) ⟨f.inc,rfl,λj l a=>by simp at a,rfl,by simp,λds e=>by cases e⟩ (λl a=>by simp at a);refine k.bP λp s=>?_
   rcases gH.1 s with d | d
   ·exact h.hC p d
   ·obtain ⟨n,u⟩:=List.mem_filter.1 d;obtain ⟨l,a,rfl⟩:=cD.1 n;obtain ⟨j,i⟩:=gh.1 a;have o:=f.lane j l i;have r:=(kY.1 i).1;have g:=f.ay;refine ⟨?_,h.cC C (cj b) l a⟩;rw [o.node];split at g
    ·exact ⟨by omega,by show (j:Int)<(F.nodes.length:Int);omega⟩
    ·omega
theorem Gh (n i:Nat) (inc:Int) (j:Nat) (l:cH) (h:(h1 n i inc)[j]?=some l):l=q_ i inc j/\j<n:=by
 unfold h1 at h;rw [eL] at h;cases a:(List.range n)[j]? with
 |none=>rw [a] at h;cases h
 |some k=>rw [a] at h;obtain ⟨b,c⟩:=kY.1 a;simp at b c h;subst c;exact ⟨h.symm,b⟩
theorem HP (n i:Nat) (inc:Int):f0 (h1 n i inc)=0:=by
 unfold h1 f0;rw [jZ];induction n with
 |zero=>rfl
 |succ n a=>rw [k0,jx,List.sum_append,a];rfl
theorem Good.fresh {n c lines:Nat} (y:1<=n/\n<=5) (w:1<=c/\c<=6) (b:98<=lines/\lines<=256):Good (aB.fresh n c lines):=by
 have q:∀ (j:Nat) (l:cH) (i:Nat),(h1 n i 1)[j]?=some l->gk l.pair:=by intro j l i b;obtain ⟨rfl,_⟩:=Gh _ _ _ _ _ b;exact ⟨λv aj=>by simp [q_] at aj,λ_=>rfl,λ_=>rfl,λx xs e=>by simp [q_] at e⟩
 refine ⟨⟨by simp [aB.fresh];omega,by simp [aB.fresh];omega,λx r=>?_,by simp [aB.fresh];omega,λi C d=>?_,λp g=>by simp [aB.fresh] at g⟩,λC d l b=>?_,λp g=>by simp [aB.fresh] at g⟩
 ·simp [aB.fresh] at r;rw [r.2];show (fmt lines n).length=lines * 8;exact BS _ _
 ·have a:((List.range c).map (jN n))[i]?=some C:=d;rw [eL] at a;cases h:(List.range c)[i]? with
  |none=>rw [h] at a;cases a
  |some k=>
   rw [h] at a;obtain ⟨s,o⟩:=kY.1 h;simp at s o a;subst o;rw [<-a];refine ⟨by simp [jN],by simp [jN,h1,aB.fresh],λj l b=>?_,?_,by simp [jN],λds e=>by simp [jN] at e⟩
   ·have f:=q j l i b;obtain ⟨rfl,_⟩:=Gh _ _ _ _ _ b;exact ⟨rfl,rfl,rfl,rfl,λk u=>by simp [q_] at u,f.h'⟩
   ·show 0=f0 (h1 n i 1);rw [HP]
 ·simp [aB.fresh] at d;obtain ⟨i,_,rfl⟩:=d;obtain ⟨j,t⟩:=gh.1 b;exact q j l i t
end
section
structure fe (A:a2) (ar:Nat->Tag) (w:al) (aM:Nat) (L:a2) (u:al) (B:a2) (tW:Nat->Tag) (X:bl):Prop where
 next:Next A B ar tW w u
 b9:bX (λk=>B k\/L k) tW u aM X
 loc:∀ k,L k->w.heap.size<=k/\k<u.heap.size/\tW k=.ck
theorem fe.start {ar:Nat->Tag} {c:al} {X:bl} (h:bX A ar w aM X) (d:ai w c) (b:∀ k,L k->w.heap.size<=k/\k<c.heap.size):fe A ar w aM L c A ar X:=by
 refine ⟨h.refl d,?_,λk a=>⟨(b k a).1,(b k a).2,h.fresh (b k a).1⟩⟩;refine (h.zq d).l4 (λk a=>?_) λk a=>.inl (h.eO k a)
 rcases a with a | a
 ·exact .inl a
 ·exact .inr (b k a)
theorem fe.op {ar:Nat->Tag} {o:Nat->Tag} {X:bl} (t:fe A ar w aM L u B o X) {F:aB} (p:dD (λk=>B k\/L k) o u aM F bo K) :
  ∃ B' g h,fe A ar w aM L bo B' g h/\h.pure=F/\K (λk=>B' k\/L k)/\ao (λk=>B k\/L k) u bo/\(∀ k,k<u.heap.size->B' k\/L k->B k\/L k)/\(∀ k,L k->bo.heap[k]?=u.heap[k]?):=by
 obtain ⟨A',g,h,n,q,s,r⟩:=p;have i:A'=λk=>fQ A ar g w k\/L k:=by
  funext k;apply propext;rw [n.iff k];constructor
  ·rintro (b | ⟨b,c | c,d⟩)
   ·exact .inl (.inl b)
   ·rcases (t.next.iff k).1 c with f | f
    ·exact absurd d f
    ·exact .inl (.inr f)
   ·exact .inr c
  ·rintro ((b | ⟨b,c,d⟩) | b)
   ·exact .inl b
   ·refine .inr ⟨fF b t.next.ax.size,.inl ((t.next.iff k).2 (.inr ⟨b,c,d⟩)),?_⟩;by_cases a:o k=.ck
    ·exact a
    ·exact absurd d (t.next.grow k b a)
   ·obtain ⟨_,c,d⟩:=t.loc k b;exact .inr ⟨c,.inr b,d⟩
 have l:ao (λk=>B k\/L k) u bo:=n.ax.mono λk _ a=>t.b9.eO k a
 refine ⟨fQ A ar g w,g,h,⟨⟨t.next.ax.trans n.ax λk e a=>t.next.grow k e a,λk e a=>t.next.grow k e (n.grow k (fF e t.next.ax.size) a),λk=>Iff.rfl⟩,i▸q,λk e=>?_⟩,s,i▸r,l,λk e a=>?_,λk e=>?_⟩
 ·obtain ⟨b,c,d⟩:=t.loc k e;refine ⟨b,fF c n.ax.size,?_⟩;by_cases a:g k=.ck
  ·exact a
  ·exact absurd d (n.grow k c a)
 ·have j:A' k:=by rw [i];exact a
  rcases (n.iff k).1 j with f | f
  ·exact t.b9.eO k (n.grow k e f)
  ·exact f.2.1
 ·obtain ⟨_,c,d⟩:=t.loc k e;exact n.ax.block k c λa=>a d
theorem fe.local {ar:Nat->Tag} {e:Nat->Tag} {X:bl} (t:fe A ar w aM L u B e X) {S:a2} (c:ao S u bo) (b:∀ k,S k->L k):fe A ar w aM L bo B e X:=by refine ⟨⟨t.next.ax.trans c λk f a=>?_,t.next.grow,t.next.iff⟩,t.b9.other c λk a=>⟨.inr (b k a),(t.loc k (b k a)).2.2⟩,λk d=>⟨(t.loc k d).1,fF (t.loc k d).2.1 c.size,(t.loc k d).2.2⟩⟩;have:=(t.loc k (b k a)).1;omega
theorem fe.new {ar:Nat->Tag} {a:Nat->Tag} {X:bl} (t:fe A ar w aM L u B a X) (b:ai u bo):fe A ar w aM L bo B a X:=
 t.local b λ_ h=>h.elim
theorem fe.done {ar:Nat->Tag} {b:Nat->Tag} {X:bl} (t:fe A ar w aM L u B b X) (c:K B):dD A ar w aM X.pure u K:=
 ⟨B,b,X,t.next,t.b9.l4 (λk a=>.inl a) (λk a=>(t.next.iff k).2 (.inl a)),rfl,c⟩
theorem fM.ax {A':a2} {a:an} {xs:aw} (e:bg w a xs) (b:xs=[]\/fM A a) (d:∀ k,k<w.heap.size->A' k->A k):xs=[]\/fM A' a:=by
 rcases b with b | b
 ·exact .inl b
 ·by_cases c:xs=[]
  ·exact .inl c
  ·refine .inr ?_;cases a with
   |none=>trivial
   |some a=>intro hm;exact b (d _ (e.lt c) hm)
theorem hj.ax {A A':a2} {w w':al} {a:an} {G:List (List aC)} (h:hj A w a G) (c:ao A w w') (b:∀ k,k<w.heap.size->A' k->A k):hj A' w' a G:=by obtain ⟨rows,p,g,f,aA⟩:=h;refine ⟨rows,p,g.ax c f,fM.ax g f b,λi r ds n o=>?_⟩;obtain ⟨d,e,j,l⟩:=aA i r ds n o;exact ⟨d.ax c e,fM.ax d e b,j.ax c b,l⟩
abbrev oe:TypeId:=42
abbrev yo:TypeId:=100
theorem Hb (rows:List Row):∀ u ∈ kk rows,single u=true:=by intro u hu;simp only [kk,cD] at hu;obtain ⟨r,_,rfl⟩:=hu;rfl
theorem J' {z:al} {G:List (List aC)} (Ux:hj B z gA G) (UB:G.length<=1000000) {raw:List bF} {ds:List aC} {c:Nat} (O:av z b (fq raw).flatten ij) (Uj:gi B z raw ds) (Um:¬ B b) (Ui:ds.length<=1024) (R:∀ k,B k->k<z.heap.size) {n:Nat} (Uy:n=raw.length)
  {K:Nat->an->Nat->Nat->aE} (p:∀ u ap cap Uq,z.heap.size<=u->hj B Uq ap (G++[ds])->G.length+1<=cap->ai z Uq->K u ap (G.length+1) cap Uq) :
  ∃ (ap:an) (j g:Nat),∃ Up,(Builtin.append_ #[oe,oe] oe #[(.slice none 0 0),(.slice gA G.length gc)]).run prog z=.ok (.slice ap j g) Up/\∀ u W,u=Up.heap.size->W=Up.alloc (.cells #[.slice (some ⟨b,0,none⟩) n c] yo)->
   ∃ (l:an) (d a:Nat),∃ X,(Builtin.append_ #[oe,oe] oe #[(.slice ap j g),(.slice (some ⟨u,0,none⟩) 1 1)]).run prog W=.ok (.slice l d a) X/\K u l d a X:=by
 obtain ⟨inf,Us,au,q,Z⟩:=fp (T:=yo) (z:=.slice none 0 0) (n:=1) (m:=24) (by kernel_rfl);obtain ⟨rows,F,Uz,J,aA⟩:=Ux;have Un:aY z yo inf.size none 0 0 []:=aY.nil _ _ _;have Uo:(kk rows).length=G.length:=by simp [kk,F]
 obtain ⟨ap,de,Ut,V,A,Ul,Y⟩:=aY.append (P:=prog) (t:=oe) (ty:=oe) Tryz.underlying42 Us au (by rw [q];rfl) (by omega) Un (s:=gA) (m:=G.length) (c:=gc) (news:=kk rows) (by rw [q,Uo];omega) Uz (Hb rows) (by omega) (by rw [Z];omega);have S:ai z Ut:=Ul.mono λk _ O=>by obtain ⟨o,J⟩:=O;cases J
 have x:∀ k,aL ap k->z.heap.size<=k:=λk p=>by
  rcases Y with e | e
  ·rw [e] at p;obtain ⟨o,J⟩:=p;cases J
  ·rw [e] at p;obtain ⟨o,J⟩:=p;simp at J <;> omega
 refine ⟨ap,0+G.length,de,Ut,V,?_⟩;rw [gG,m4] at A;rw [gG];refine nI Tryz.underlying42 Us au (by rw [q];rfl) (by omega) A (vs:=[.slice (some ⟨b,0,none⟩) n c]) (by rw [q];rfl) (by intro v aj;simp at aj;subst aj;rfl) (by omega) (by omega) ?_;intro u l L I Uw y Q N;have f:ai z I:=q8 S Q x;have UA:=S.size;refine p u l L I (by omega) ?_ y.le f;have D:∀ k,aL l k->z.heap.size<=k:=λk p=>by
  rcases N k p with M | M
  ·exact x k M
  ·omega
 have H:kk rows++[.slice (some ⟨b,0,none⟩) n c]=kk (rows++[⟨some ⟨b,0,none⟩,c,raw⟩]):=by simp [kk,Uy]
 have U:bg I l (kk (rows++[⟨some ⟨b,0,none⟩,c,raw⟩])):=by rw [<-H];exact y.rd
 refine ⟨rows++[⟨some ⟨b,0,none⟩,c,raw⟩],by simp [F],U,g0 U λk p O=>?_,λi r es w C=>?_⟩
 ·have M:=D k p;have Ur:=R k O;omega
 ·rw [o3] at w C;rw [F] at w;split at w
  ·rename_i E;rw [if_pos E] at C;obtain ⟨M,Ur,Uu,Uv⟩:=aA i r es w C;exact ⟨M.new f,Ur,Uu.ax (ao.bZ f) (λ_ _ h=>h),Uv⟩
  ·rename_i E;rw [if_neg E] at C;have Uk:i - G.length=0:=by have:=(kY.1 w).1;simp at this <;> omega
   rw [Uk] at w C;simp at w C;subst w C;refine ⟨e9 (ai.ak f O) (by rw [tS];exact gb (dd _)),.inr Um,Uj.ax (ao.bZ f) (λ_ _ h=>h),Ui⟩
end
end Go.Proofs.YtmkljjbioomepaaGreat
