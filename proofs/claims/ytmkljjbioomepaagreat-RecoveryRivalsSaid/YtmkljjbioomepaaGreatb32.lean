import Derived.Test.YtmkljjbioomepaaGreatb31
set_option linter.all false
set_option maxHeartbeats 4000000
set_option maxRecDepth 100000
namespace Go.Proofs.YtmkljjbioomepaaGreat
open Go.Proofs.Tryz Go.bu
variable {G:List (List aO)} {aT:List bd} {R:cB} {V:ga} {j:b3} {l:List aK} {la pa:an} {lc n pc aH tb:Nat} {m:aY} {q:bY} {r:dt} {seq:Int} {u w0:ak} {vs:List aW}
section
noncomputable abbrev iT:Func:=f247
def y4 (j:b3) (seq:Int) (W:List aK) (bg:aY):List aW:=[lN j bg (e' j.dead) [0],lN j bg (e' j.dead+8) (fi seq W),lN j bg (e' j.dead) [fQ seq]]
theorem m4 {y a:ak} {b:Nat} {x:Int} (c:b=y.heap.size) (hw:a=y.alloc (.cells #[.int .u64 x] 30)):ai y a/\bh a (some ⟨b,0,none⟩) (us [x]):=by obtain ⟨au,d⟩:=bl (zs:=(us [x]).toArray) c hw;exact ⟨d,fm au rfl⟩
theorem JJ {z:ak} {o:Int×Int} (Wb:dh w0 z aH tb r m j V o) {b1 L:Nat} {bg:aY} (WC:av z b1 q.cells eo) (WD:av z L bg.cells eI) (Ww:dN bg.cn) {W:List aK} (Wy:fh z q.eu q.dO W) (Wf:fy q.Seq W 256=0) (V9:∀ x ∈ fi q.Seq W,ca x) (V_:ca (fQ q.Seq)) (Wd:ai u z)
  (Wg:bH u z pa n pc vs) (WO:n<=1000) (O:an) (U Q:Nat) (X Y:Int) (WE:ax) {QX:Exit->ax->aE}
  (S:∀ WJ ap D WE,bH u WJ ap (n+3) D (vs++y4 j q.Seq W bg)->ai u WJ->QX .normal (lG ⟨aH,0,none⟩ ⟨b1,0,none⟩ (fQ q.Seq) ap (n+3) D O U Q X Y WE) WJ) :
  Go.bu.W prog (sub (bp iT) [1,1,1,0,1,0,0,1,1,0,0,1,1]) (zY ⟨aH,0,none⟩ ⟨b1,0,none⟩ (fQ q.Seq) pa n pc ⟨L,0,none⟩ O U Q X Y WE) (bG prog iT R QX) z:=by
 rw [Q5];have Wc:=Wb.cf.dead;have ar:=Wb.bM.dead;obtain ⟨_,WA,Wu,_⟩:=jj Wf;refine ⟨r.eO,Wb.aj.cell (i:=5) rfl,?_⟩;rw [ar];refine aC (yY z Wc) ?_;rintro v WW ⟨rfl,rfl⟩;refine ⟨_,rfl,?_⟩;rintro V3 Wh;have A:ai WW V3:=by rw [Wh];exact cE _
 clear Wh;have Wz:∀ k,aL pa k->k<WW.heap.size:=λk S=>by obtain ⟨cl,Wk,_⟩:=Wg.ex;exact Wk.lt S
 have W2:=A.size;have W3:=Wd.size;have p:∀ {y:ak},ai V3 y->av y L bg.cells eI/\av y b1 q.cells eo/\iQ r tb m j aH y:=λ{y} J=>⟨ai.aj (A.new J) WD,ai.aj (A.new J) WC,_,_,(Wb.bz (A.new J)).aj⟩
 have wr:∀ {y:ak} {K:Ending->aE} {a:an} {l c:Nat} {ws:bd} (at_:Int),ai V3 y->bh y a (us ws)->l=ws.length->l<=c->(∀ x ∈ ws,ca x)->ws.length<=1000->ws≠[]->(∀ (bj:aG) s,ai y s->cF (λk=>k<y.heap.size) s bj (lN j bg at_ ws)->K (.returned bj.val) s)->Calls prog 250 #[ptr aH,bg.val,.int .i64 at_,.slice a l c] y K:=by
  intro y K a l c ws at_ J Wl Wu Wv hu hw W1 V6
  refine aC (x5 (Wb.bz (A.new J)) Ww at_ Wl Wu Wv (λe=>?_) hu (by omega)) ?_
  ·rcases Wl with Wj | ⟨dk,W8,Wj,_⟩
   ·have:=congrArg List.length Wj;rw [hE,p8] at this;exact fI this
   ·rw [e] at Wj;cases Wj
  ·rintro v s ⟨bj,rfl,WB,V8⟩;exact V6 bj s V8 WB
 have F:∀ {y:ak} {K:Ending->aE} {b:Nat} {x:Int},ai V3 y->bh y (some ⟨b,0,none⟩) (us [x])->ca x->(∀ (bj:aG) s,ai y s->cF (λk=>k<y.heap.size) s bj (lN j bg (e' j.dead) [x])->K (.returned bj.val) s)->Calls prog 250 #[ptr aH,bg.val,.int .i64 (e' j.dead),.slice (some ⟨b,0,none⟩) 1 1] y K:=λJ Wl hu V6=>wr _ J Wl rfl (cQ 1) (λy B=>by simp at B;rw [B];exact hu) (by simp) (by simp) V6
 have eB:∀ {y:ak} {K:Ending->aE},ai V3 y->(∀ (a:an) (c:Nat) s,ai y s->bh s a (us (fi q.Seq W))->3+9 * W.length<=c->K (.returned (.slice a (3+9 * W.length) c)) s)->Calls prog 210 #[q.val] y K:=by intro y K J V6;refine aC (yJ (Wy.new (A.new J)) Wf ⟨WA.1,WA.2.1⟩ WA.2.2.2 Wu) ?_;rintro v s ⟨a,c,rfl,V8,Wk,_⟩;exact V6 a c s V8 Wk.rd (a0.le Wk)
 have lb:∀ {y:ak} {K:Ending->aE},K (.returned (.int .i64 (e' j.dead+8))) y->Calls prog 209 #[.int .i64 j.dead] y K:=by intro y K V6;refine aC (Dv y Wc) ?_;rintro v s ⟨rfl,rfl⟩;exact V6
 have P:=pA q.Seq W;have bne:fi q.Seq W≠[]:=λe=>by rw [e] at P;simp at P <;> omega
 have fin:∀ {Z M Wo Wp Wq Wi:ak} {v1 v2 w:aG},ai V3 Z->ai Z M->cF (λk=>k<Z.heap.size) M v1 (lN j bg (e' j.dead) [0])->ai M Wo->ai Wo Wp->cF (λk=>k<Wo.heap.size) Wp v2 (lN j bg (e' j.dead+8) (fi q.Seq W))->ai Wp Wq->ai Wq Wi->cF (λk=>k<Wq.heap.size) Wi w (lN j bg (e' j.dead) [fQ q.Seq])->∀ (a6:Nat->an->Nat->Nat->ax) (b:Nat) (y:ak),b=Wi.heap.size->y=Wi.alloc (.cells #[.int .i64 v1.Kind,.int .i64 v1.Node,.int .i64 v1.bX,.int .i64 v1.N,.int .u64 v1.Old,.int .u64 v1.ai,.slice v1.Words v1.cK v1.cD,.int .u64 v1.Key,.int .i64 v1.cn,.int .i64 v2.Kind,.int .i64 v2.Node,.int .i64 v2.bX,.int .i64 v2.N,.int .u64 v2.Old,.int .u64 v2.ai,.slice v2.Words v2.cK v2.cD,.int .u64 v2.Key,.int .i64 v2.cn,.int .i64 w.Kind,.int .i64 w.Node,.int .i64 w.bX,.int .i64 w.N,.int .u64 w.Old,.int .u64 w.ai,.slice w.Words w.cK w.cD,.int .u64 w.Key,.int .i64 w.cn] cz)->
   (av y L bg.cells eI/\av y b1 q.cells eo/\iQ r tb m j aH y)/\∃ (ap:an) (c8 ac:Nat),∃ s,(Builtin.append_ #[gx,gx] gx #[(.slice pa n pc),(.slice (some ⟨b,0,none⟩) 3 3)]).run prog y=.ok (.slice ap c8 ac) s/\(av s L bg.cells eI/\av s b1 q.cells eo/\iQ r tb m j aH s)/\QX .normal (lG ⟨aH,0,none⟩ ⟨b1,0,none⟩ (fQ q.Seq) ap c8 ac O U Q X Y (a6 b ap c8 ac)) s:=by
  intro Z M Wo Wp Wq Wi v1 v2 w na fF I nc nd V4 ne WP V5 a6 b y h B;obtain ⟨au,J⟩:=bl h B;have au:av y b (v1.cells++v2.cells++w.cells) cz:=au;have s1:=na.size;have s2:=fF.size;have W9:=nc.size;have W_:=nd.size;have Xa:=ne.size;have W4:=bH.three fF I (nc.new nd) (V4.mono λk S=>by omega) (ne.new WP) (V5.mono λk S=>by omega) h au J;have E:ai V3 y:=((((na.new fF).new nc).new nd).new ne).new (WP.new J);refine ⟨p E,?_⟩;have al:=Wg.new (A.new E);obtain ⟨cl,We,_⟩:=al.ex;have off:∀ {b:Nat} {cs:ax} {T:TypeId},T≠cz->av y b cs T->¬ aL pa b:=λW0 h S=>by obtain ⟨WY,Wt⟩:=fM We S;exact Wt.ne h (λe=>W0 e.symm) rfl
  obtain ⟨WL,WM,WK,WQ,WN⟩:=p E;refine bH.t' al (Wd.new (A.new E)) W4 (λk S=>by have:=Wz k S;omega) (by omega) (by omega) λap D s WZ V7 Wx=>⟨⟨V7.aj WL (off (by decide) WL),V7.aj WM (off (by decide) WM),WK,WQ,V7.aj WN (off (by decide) WN)⟩,S s ap D _ WZ Wx⟩
 have rest:∀ {Z M:ak} {v1:aG} {Ws:Nat} {a6:aG->aG->Nat->an->Nat->Nat->an->Nat->Nat->ax},ai V3 Z->ai Z M->cF (λk=>k<Z.heap.size) M v1 (lN j bg (e' j.dead) [0])->bh M (some ⟨Ws,0,none⟩) (us [fQ q.Seq])->Calls prog 210 #[q.val] M λe WR=>∃ (b:an) (P ff:Nat),e=.returned (.slice b P ff)/\(λy=>av y L bg.cells eI/\av y b1 q.cells eo/\iQ r tb m j aH y) WR/\Calls prog 250 #[ptr aH,bg.val,.int .i64 (e' j.dead+8),.slice b P ff] WR λe WS=>aG.ex λG=>e=.returned G.val/\(λy=>av y L bg.cells eI/\av y b1 q.cells eo/\iQ r tb m j aH y) WS/\Calls prog 250 #[ptr aH,bg.val,.int .i64 (e' j.dead),.slice (some ⟨Ws,0,none⟩) 1 1] WS λe WH=>aG.ex λH=>e=.returned H.val/\(λy=>av y L bg.cells eI/\av y b1 q.cells eo/\iQ r tb m j aH y) WH/\∀ Wr V',Wr=WH.heap.size->V'=WH.alloc (.cells #[.int .i64 v1.Kind,.int .i64 v1.Node,.int .i64 v1.bX,.int .i64 v1.N,.int .u64 v1.Old,.int .u64 v1.ai,.slice v1.Words v1.cK v1.cD,.int .u64 v1.Key,.int .i64 v1.cn,.int .i64 G.Kind,.int .i64 G.Node,.int .i64 G.bX,.int .i64 G.N,.int .u64 G.Old,.int .u64 G.ai,.slice G.Words G.cK G.cD,.int .u64 G.Key,.int .i64 G.cn,.int .i64 H.Kind,.int .i64 H.Node,.int .i64 H.bX,.int .i64 H.N,.int .u64 H.Old,.int .u64 H.ai,.slice H.Words H.cK H.cD,.int .u64 H.Key,.int .i64 H.cn] cz)->(λy=>av y L bg.cells eI/\av y b1 q.cells eo/\iQ r tb m j aH y) V'/\∃ (ap:an) (c8 ac:Nat),∃ Wa,(Builtin.append_ #[gx,gx] gx #[(.slice pa n pc),(.slice (some ⟨Wr,0,none⟩) 3 3)]).run prog V'=.ok (.slice ap c8 ac) Wa/\(λy=>av y L bg.cells eI/\av y b1 q.cells eo/\iQ r tb m j aH y) Wa/\QX .normal (lG ⟨aH,0,none⟩ ⟨b1,0,none⟩ (fQ q.Seq) ap c8 ac O U Q X Y (a6 G H Wr ap c8 ac b P ff)) Wa
  :=by
  intro Z M v1 Ws a6 na fF I W7;refine eB (na.new fF) λa c WU t Wm lc=>⟨_,_,_,rfl,p ((na.new fF).new t),?_⟩
  refine wr (e' j.dead+8) ((na.new fF).new t) Wm P.symm lc V9 (by omega) bne λv2 WV C V4=>aG.aR v2 ⟨rfl,p (((na.new fF).new t).new C),?_⟩
  refine F (((na.new fF).new t).new C) (W7.new (t.new C)) V_ λw WI V2 V5=>aG.aR w ⟨rfl,p ((((na.new fF).new t).new C).new V2),?_⟩
  exact fin na fF I t C V4 (ao.refl _ _) V2 V5 _
 refine ⟨λy=>av y L bg.cells eI/\av y b1 q.cells eo/\iQ r tb m j aH y,p (ao.refl _ _),aY.aR bg ⟨λy B=>bJ B.1 rfl,aY.aR bg ⟨λy B=>bJ B.1 rfl,r.eO,λy B=>by obtain ⟨_,_,WK,WQ,B⟩:=B;exact B.cell (i:=5) rfl,bY.aR q ⟨λy B=>bJ B.2.1 rfl,aY.aR bg ⟨λy B=>bJ B.1 rfl,?_⟩⟩⟩⟩⟩;rw [ar];refine ⟨λWX Xb h hw=>?_,λdq WI h hw=>?_⟩
 ·obtain ⟨d,r1⟩:=m4 h hw;clear h hw;refine ⟨p d,F d r1 hf λv1 WT f I=>aG.aR v1 ⟨rfl,p (d.new f),?_,?_⟩,λb WT h hw=>?_⟩
  ·refine lb ⟨_,rfl,p (d.new f),?_,?_⟩
   ·refine eB (d.new f) λa c Wn g Wm lc=>⟨_,_,_,rfl,p ((d.new f).new g),?_,?_⟩
    ·refine wr (e' j.dead+8) ((d.new f).new g) Wm P.symm lc V9 (by omega) bne λv2 WU t V4=>aG.aR v2 ⟨rfl,p (((d.new f).new g).new t),λb WV h hw=>?_⟩
     obtain ⟨C,W6⟩:=m4 h hw;clear h hw;refine ⟨p ((((d.new f).new g).new t).new C),F ((((d.new f).new g).new t).new C) W6 V_ λw WI V2 V5=>aG.aR w ⟨rfl,p (((((d.new f).new g).new t).new C).new V2),?_⟩⟩;exact fin d f I g t V4 C V2 V5 (λb ap c8 ac=>_)
    ·intro b WU h hw;obtain ⟨t,W5⟩:=m4 h hw;clear h hw;refine ⟨p (((d.new f).new g).new t),wr (e' j.dead+8) (((d.new f).new g).new t) (Wm.new t) P.symm lc V9 (by omega) bne λv2 WV C V4=>aG.aR v2 ⟨rfl,p ((((d.new f).new g).new t).new C),?_⟩⟩;refine F ((((d.new f).new g).new t).new C) (W5.new C) V_ λw WI V2 V5=>aG.aR w ⟨rfl,p (((((d.new f).new g).new t).new C).new V2),?_⟩
     exact fin d f I (g.new t) C V4 (ao.refl _ _) V2 V5 (λb ap c8 ac=>_)
   ·intro b Wn h hw;obtain ⟨g,WG⟩:=m4 h hw;clear h hw;exact ⟨p ((d.new f).new g),rest d (f.new g) (I.az (ao.b4 g) λ_ _ e=>e) WG⟩
  ·intro b Wn h hw;obtain ⟨g,WG⟩:=m4 h hw;clear h hw;exact ⟨p ((d.new f).new g),lb ⟨_,rfl,p ((d.new f).new g),rest d (f.new g) (I.az (ao.b4 g) λ_ _ e=>e) WG⟩⟩
  ·obtain ⟨f,WF⟩:=m4 h hw;clear h hw;refine ⟨p (d.new f),F (d.new f) (r1.new f) hf λv1 Wn g I=>aG.aR v1 ⟨rfl,p ((d.new f).new g),lb ⟨_,rfl,p ((d.new f).new g),?_⟩⟩⟩;exact rest (d.new f) g I (WF.new g)
 ·obtain ⟨d,r1⟩:=m4 h hw;clear h hw;refine ⟨p d,λb WT h hw=>?_⟩;obtain ⟨f,WF⟩:=m4 h hw;clear h hw;refine ⟨p (d.new f),F (d.new f) WF hf λv1 Wn g I=>aG.aR v1 ⟨rfl,p ((d.new f).new g),lb ⟨_,rfl,p ((d.new f).new g),?_⟩⟩⟩;exact rest (d.new f) g I ((r1.new f).new g)
end
section
def rv (j:b3) (seq:Int) (W:List aK) (L:bd):Bool:=li L j.lines && v_ (seq,W) (fj L j.lines)
def xR (j:b3) (seq:Int) (W:List aK) (aT:List bd) (i:Nat):List aW:=if rv j seq W (aT.getD i [])=true then [] else y4 j seq W (j.v.mem.getD i jI)
def nH (j:b3) (seq:Int) (W:List aK) (aT:List bd) (n:Nat):List aW:=((List.range n).map (xR j seq W aT)).flatten
def k4 (j:b3) (seq:Int) (W:List aK) (aT:List bd) (G:List (List aO)):cq:=bK G (nH j seq W aT j.v.mem.length)
theorem B6 (j:b3) (seq:Int) (W:List aK) (aT:List bd) (n:Nat):nH j seq W aT (n+1)=nH j seq W aT n++xR j seq W aT n:=by unfold nH;rw [ki];simp
theorem vx {w w':ak} {a:an} {W:List aK} (h:fh w a n W) {M:a3} (c:ao M w w') (b:∀ k,aL a k->¬ M k):fh w' a n W:=⟨h.rd.az c (hn h.rd b),h.len,h.eD,h.u64⟩
abbrev GU (R:cB) (N:ax->aE) (Q:Exit->ax->aE):Exit->ax->aE:=aM 1 (aU (λenv w=>Go.bu.W prog (sub (bp iT) [1,1,1,0,1,0,0,1,1,1]) env (bG prog iT R (aU N Q)) w) (bG prog iT R (aU N Q)))
abbrev GS (R:cB) (N:ax->aE) (Q:Exit->ax->aE):Exit->ax->aE:=bG prog iT R (aU (λenv w=>Go.bu.W prog (sub (bp iT) [1,1,1,0,1,0,0,1,1,0,0,1,1]) env (GU R N Q) w) (GU R N Q))
theorem KR {A:a3} {T:fV} (V':dh w0 u aH tb r m j V (0,0)) (WL:eP A w0 u tb T G) (Wv:fY T) (WZ:kS w0 u aH tb V aT) (WT:aT.length=j.v.mem.length) {W:List aK} (Wf:fh u q.eu q.dO W) (Wh:fy q.Seq W 256=0) (WC:∀ x ∈ fi q.Seq W,ca x) :
  a9 247 [ptr aH,q.val] u (k' A w0 u aH tb r m j V (k4 j q.Seq W aT G)):=by
 refine bc Tryz.func247 ?_;rw [ptr,Rw];generalize Ws:k' A w0 u aH tb r m j V (k4 j q.Seq W aT G)=hi;obtain ⟨⟨WG,WB,WA,W4,Wc⟩,WN⟩:=WZ;have WO:=V'.aj.lt;have WR:=WL.aj.lt;have WX:=V'.cf.mem;have S:=V'.bM.lines;obtain ⟨_,Wi,_⟩:=jj Wh;obtain ⟨W_,K⟩:=V'.bM.view;have hlen:=K.len;rintro b1 w1 Wt Wk;obtain ⟨O,B⟩:=bl Wt Wk;have O:av w1 b1 q.cells eo:=O;clear Wk;have Wz:=B.size;have P:=V'.bz B;refine ⟨_,O.cell (i:=0) rfl,?_⟩;refine aC (zf w1 ⟨Wi.1,Wi.2.1⟩) ?_;rintro v Wa ⟨rfl,rfl⟩;refine ⟨_,_,rfl,_,_,_,P.aj.cell (i:=4) rfl,?_⟩;refine c2 mix (λk env z=>∃ (i n:Nat) (pa:an) (pc:Nat) (D:ax),k=j.v.mem.length - i/\i<=j.v.mem.length/\n<=3 * i/\env=ub ⟨aH,0,none⟩ ⟨b1,0,none⟩ (fQ q.Seq) pa n pc r.View.ed r.View.ei r.View.eA r.View.ei i D/\ai Wa z/\bH Wa z pa n pc (nH j q.Seq W aT i)) j.v.mem.length
  ⟨0,0,none,0,_,by omega,by omega,by omega,rfl,ao.refl _ _,bH.nil _ _⟩ ?_
 rintro k env z ⟨i,n,pa,pc,D,rfl,Xa,W1,rfl,l,U⟩;have V7:=P.bz l;have Wd:=V7.new;refine g_ (fn:=iT) (R:=hi) (λ_ _=>rfl) ?_;rw [P9,hlen];refine a8 (λV8=>?_) (λWW=>?_)
 ·obtain ⟨bg,hm⟩:∃ bg,j.v.mem[i]?=some bg:=⟨_,bD (by omega)⟩;obtain ⟨s,WP⟩:∃ s,WG[i]?=some s:=⟨_,bD (by omega)⟩;obtain ⟨L,WK⟩:∃ L,aT[i]?=some L:=⟨_,bD (by omega)⟩;have Wb:=Wc i s L WP WK;have W0:=V'.cf.ef bg (b7 hm);have WS:aT.getD i []=L:=by rw [dF,WK];rfl
  have em:j.v.mem.getD i jI=bg:=by rw [dF,hm];rfl
  refine er (cells:=aY.cells) aY.len (by omega) (K.rd.new Wd) hm rfl rfl λb W6 Wu _=>aY.aR bg ⟨Wu,?_⟩
  refine ea (vs:=bg.cells) rfl (aY.single _) λWI W7 WU WE H=>?_
  obtain ⟨a7,Wr⟩:∃ a7:ax->aE,∀ env w,a7 env w=(∃ bW,bW<j.v.mem.length - i/\∃ (Wn n:Nat) (pa:an) (pc:Nat) (D:ax),bW=j.v.mem.length - Wn/\Wn<=j.v.mem.length/\n<=3 * Wn/\env=ub ⟨aH,0,none⟩ ⟨b1,0,none⟩ (fQ q.Seq) pa n pc r.View.ed r.View.ei r.View.eA r.View.ei Wn D/\ai Wa w/\bH Wa w pa n pc (nH j q.Seq W aT Wn)):=⟨_,λ_ _=>rfl⟩;have Wo:∀ {Wp:ak} {X:an} {n' Y:Nat} (D:ax),n'<=3 * (i+1)->ai Wa Wp->bH Wa Wp X n' Y (nH j q.Seq W aT (i+1))->∀ {N:ax->aE} {jd:Exit->ax->aE},(∀ env w,a7 env w->N env w)->
    Go.bu.W prog (sub (bp iT) [1,1,1,0,1,0,0,1,1,1]) (lG ⟨aH,0,none⟩ ⟨b1,0,none⟩ (fQ q.Seq) X n' Y r.View.ed j.v.mem.length r.View.eA (j.v.mem.length:Nat) i D) (bG prog iT hi (aU N jd)) Wp:=by
   intro Wp X n' Y D V9 We Wj N jd V3;rw [Q4,bC (x:=(i:Int)+1) (by omega) (by omega)];exact eU (V3 _ _ ((Wr _ _).mpr ⟨j.v.mem.length - (i+1),by omega,i+1,n',X,Y,_,rfl,by omega,V9,by rw [hlen];rfl,We,Wj⟩))
  rw [P_];refine g_ (fn:=iT) (R:=hi) (λ_ _=>rfl) ?_;rw [lm];rintro Wq Wl;have C:ai W7 Wq:=by rw [Wl];exact cE _
  clear Wl;have F:=l.new (H.new C);have Q:=P.bz F;refine ⟨λy=>ai Wq y,ao.refl _ _,_,_,_,λy Wm=>(ai.aj Wm Q.aj).cell (i:=13) rfl,?_⟩;refine iW (cells:=mz) (sz:=1) (λ_=>rfl) (by decide) (WB.new (B.new F)) WP rfl WA λb' W6 Ww=>⟨s.a,s.n,s.c,λy Wm=>by simpa using Ww y Wm 0 _ rfl,r.gw,λy Wm=>(ai.aj Wm Q.aj).cell (i:=2) rfl,?_⟩
  rw [S];have J:nH j q.Seq W aT (i+1)=nH j q.Seq W aT i++(if rv j q.Seq W L=true then [] else y4 j q.Seq W bg):=by rw [B6];unfold xR;rw [WS,em]
  have f4:∀ {y:ak} (t:Bool),t=rv j q.Seq W L->ai Wq y->∀ (D:ax) {N:ax->aE} {jd:Exit->ax->aE},(∀ env w,a7 env w->N env w)->(∀ env w,jd .ret env w=dD prog iT hi .ret env w)->
    Go.bu.W prog (sub (bp iT) [1,1,1,0,1,0,0,1,1,0,0,1,0,1,1]) (wI ⟨aH,0,none⟩ ⟨b1,0,none⟩ (fQ q.Seq) pa n pc ⟨WI,0,none⟩ r.View.ed j.v.mem.length r.View.eA (j.v.mem.length:Nat) i t D) (GS hi N jd) y:=by
   intro y t WQ g D N jd V3 V4;rw [Q3];have WM:=F.new g;refine fX (λV5=>?_) (λV5=>?_)
   ·refine p1 (pE (eU (Wo _ (by omega) (l.new ((H.new C).new g)) ?_ V3)));rw [J,if_pos (by rw [<-WQ,V5]),i'];exact U.new ((H.new C).new g)
   ·refine eU (g_ (fn:=iT) (R:=hi) (λ_ _=>rfl) ?_);have d:=(H.new C).new g;refine JJ (V7.bz d) (ai.aj (l.new d) O) (ai.aj (C.new g) WE) (by unfold dN;omega) ((Wf.new B).new (l.new d)) Wh WC (yX _) (l.new d) (U.new d) (by omega) _ _ _ _ _ _ λWp ap WJ W5 WD V9=>?_
    refine pD (eU (Wo _ (by omega) V9 ?_ V3));rw [J,if_neg (by rw [<-WQ,V5];simp)];exact WD
  have f3:∀ {y:ak} {V2:Nat} {pb:an} {aX:Nat},av y V2 (bY.cells ⟨(fj L j.lines).1,pb,(fj L j.lines).2.length,aX⟩) eo->ai Wq y->fh y pb (fj L j.lines).2.length (fj L j.lines).2->∀ (D:ax) {N:ax->aE} {jd:Exit->ax->aE},(∀ env w,a7 env w->N env w)->(∀ env w,jd .ret env w=dD prog iT hi .ret env w)->
    Go.bu.W prog (sub (bp iT) [1,1,1,0,1,0,0,1,1,0,0,1,0,1]) (wH ⟨aH,0,none⟩ ⟨b1,0,none⟩ (fQ q.Seq) pa n pc ⟨WI,0,none⟩ ⟨V2,0,none⟩ (li L j.lines) r.View.ed j.v.mem.length r.View.eA (j.v.mem.length:Nat) i D) (GS hi N jd) y:=by
   intro y V2 pb aX WF g Wg D N jd V3 V4;rw [P'];refine g_ (fn:=iT) (R:=hi) (λ_ _=>rfl) ?_;rw [Q2];have d:=l.new ((H.new C).new g);refine fX (λV5=>?_) (λV5=>?_)
   ·refine bY.aR q ⟨bJ (ai.aj d O) rfl,bY.aR _ ⟨bJ WF rfl,?_⟩⟩;refine aC (OL ((Wf.new B).new d) Wg) ?_;rintro v Xc ⟨rfl,f⟩;refine ⟨_,rfl,eU (f4 _ ?_ (g.new f) _ V3 V4)⟩;unfold rv;rw [V5];rfl
   ·refine eU (f4 _ ?_ g _ V3 V4);unfold rv;rw [V5];rfl
  refine ⟨?_,?_⟩
  ·refine aC (AH j.lines (Wb.new Q.new)) ?_;rintro v W8 ⟨pb,aX,rfl,o,I,Z⟩;refine bY.aR ⟨(fj L j.lines).1,pb,(fj L j.lines).2.length,aX⟩ ⟨_,rfl,o,?_⟩;rintro V2 WH V6 M;obtain ⟨p,f⟩:=bl V6 M;have p:av WH V2 iL.cells eo:=p;clear M;refine ⟨o.new f,dQ (vs:=bY.cells ⟨(fj L j.lines).1,pb,(fj L j.lines).2.length,aX⟩) p rfl (bY.single _) λW9 V_ E=>?_⟩;have W2:=o.size;exact f3 V_ ((o.new f).trans E λk V8 e=>by omega) (I.new (f.trans E λk V8 e=>by omega)) _ (λenv w h=>by rw [Wr,hlen] at h;exact h) λ_ _=>rfl
  ·rintro V2 WH V6 M;obtain ⟨p,f⟩:=bl V6 M;have p:av WH V2 iL.cells eo:=p;clear M;refine ⟨f,aC (AH j.lines (Wb.new (Q.bz f).new)) ?_⟩;rintro v W8 ⟨pb,aX,rfl,o,I,Z⟩;have W3:=f.size;have WV:=p.lt;refine bY.aR ⟨(fj L j.lines).1,pb,(fj L j.lines).2.length,aX⟩ ⟨_,rfl,f.new o,dQ (vs:=bY.cells ⟨(fj L j.lines).1,pb,(fj L j.lines).2.length,aX⟩) (ai.aj o p) rfl (bY.single _) λW9 V_ E=>?_⟩;exact f3 V_ ((f.new o).trans E λk V8 e=>by omega) (vx I E λk WY e=>by have:=Z k WY;omega) _ (λenv w h=>by rw [Wr,hlen] at h;exact h) λ_ _=>rfl
 ·have Wx:i=j.v.mem.length:=by omega
  subst Wx;refine p1 (pE (eU ?_));refine g_ (fn:=iT) (R:=hi) (λ_ _=>rfl) ?_;rw [Q1];refine aC (nx V7 (WL.new (B.new l)) Wv P.new (by omega) (by omega) U (by rw [<-U.len];omega)) ?_;rintro v Xb ⟨dB,dc,raw,rfl,Wy,_⟩;rw [<-Ws];exact ⟨_,_,_,_,rfl,rfl,Wy.of (B.new l) Wz⟩
end
section
noncomputable abbrev sh:Func:=f227
def uQ (j:b3) (seq:Int) (bg:aY):aW:=lN j bg (32+j.dead) [seq]
def mZ (j:b3) (seq:Int) (l:List aK) (bg:aY):List aW:=l.map (nz j bg)++[uQ j seq bg]
def tB (j:b3) (seq:Int) (l:List aK):List aW:=(j.v.mem.tail.map (mZ j seq l)).flatten
def v8 (j:b3) (m:aY) (seq:Int) (l:List aK):List aW:=uQ j seq m::l.map (nz j m)
def qL (j:b3) (m:aY) (seq:Int) (l:List aK) (B:cq):cq:=if B.ok=false then B else bK B.a4 (v8 j m seq l)
def pq (j:b3) (m:aY) (seq:Int) (W:List aK) (P:cq):cq:=
 if P.ok=false then P else if (gq j W P.done P.done.length).length=0 then P else qL j m seq (gq j W P.done P.done.length) (bK P.a4 (tB j seq (gq j W P.done P.done.length)))
def pV (j:b3) (m:aY) (seq:Int) (W:List aK) (aT:List bd) (G:List (List aO)):cq:=
 if (k4 j seq W aT G).ok=false then k4 j seq W aT G else pq j m seq W (fp j m W (k4 j seq W aT G).a4)
theorem KI {W:List aK} {ds:List aO} (h:n<=W.length):∀ p ∈ gq j W ds n,p ∈ W:=by
 intro p c;unfold gq at c;obtain ⟨l,d,a⟩:=oW.1 c;obtain ⟨i,b,rfl⟩:=cT.1 d;have b:=fJ.1 b;unfold pZ at a;split at a
 ·simp at a;subst a;rw [bD (show i<W.length by omega)];exact jS _
 ·simp at a
theorem OT (G:List (List aO)) (vs:List aW):(bK G vs).done.length<=vs.length:=by
 unfold bK cg;split
 ·simp
 split
 ·simp
 ·exact qT
theorem KS {W:List aK}:(fp j m W G).done.length<=W.length:=by have:=OT G (W.map (qi j m));rwa [ft] at this
structure qo (l:List aK):Prop where
 wr:r5 l
 lK:∀ p ∈ l,∀ x ∈ hA p,ca x
theorem qo.sub {W l:List aK} (h:qo W) (hm:∀ p ∈ l,p ∈ W) (b:l.length<=W.length):qo l:=⟨⟨by have:=h.wr.eD;omega,λp a=>h.wr.ok p (hm p a)⟩,λp a=>h.lK p (hm p a)⟩
section
variable {A:a3} {w0 u:ak} {aH tb:Nat} {r:dt} {m:aY} {j:b3} {V:ga} {T:fV} {G:List (List aO)}
theorem KT (Wx:dh w0 u aH tb r m j V (0,0)) (WH:eP A w0 u tb T G) (Wh:fY T) {w1:ak} (Wr:ai w0 w1) (V3:tb<w1.heap.size) (Y:aH<w1.heap.size) (Wc:ai w1 u) (Wq:bH w1 u pa n pc vs) (Wy:vs.length<=1000) (Wk:fh u la l.length l) (Wi:∀ k,aL la k->k≠tb/\k≠aH) (O:qo l) (Wn:ca seq) (WR:ax)
  (Ww:∀ S v bs,S=qL j m seq l (bK G vs)->v=.bool S.ok->eH A w0 u aH tb w1.heap.size r m j V S bs->R v bs) :
  Go.bu.W prog (sub (bp sh) [1,1,1,1,1,1,1,1]) (zZ ⟨aH,0,none⟩ la l.length lc (32+j.dead) seq pa n pc WR) (dD prog sh R) u:=by
 rw [Q6];have N:=Wx.ef;refine aC (nx Wx WH Wh Wr V3 Y Wq (by omega)) ?_;rintro v bE ⟨dB,dc,raw,rfl,w,_⟩;have w:eH A w0 u aH tb w1.heap.size r m j V (bK G vs) bE:=w;refine ⟨_,_,_,_,rfl,ev (λV_=>?_) (λV'=>?_)⟩
 ·have V_:(bK G vs).ok=false:=V_;exact Ww (bK G vs) _ _ (if_pos V_).symm (by rw [V_]) w
 have V':(bK G vs).ok=true:=V';obtain ⟨Q,D,Wt⟩:=oA V';have WG:qL j m seq l (bK G vs)=bK (bK G vs).a4 (v8 j m seq l):=if_neg (by rw [V'];simp);have V2:=w.eF;rw [Q] at V2;obtain ⟨WX,Wd,C,L⟩:=w.fS;rw [D] at L;rw [Wt] at C;have X:fh bE la l.length l:=vx Wk w.az λk D e=>by have:=Wi k D;exact e.elim this.1 this.2
 rintro z au;have i:ai bE z:=by rw [au];exact cE _
 clear au;have f:=V2.bz i;have J:=Wd.new i;have Wm:=X.new i;have WQ:=i.size;have WJ:=w.az.size;have V4:=J.aj.lt;have Z:=f.aj.lt;have WP:=Wc.size;have q:∀ {y:ak},ai z y->iQ r tb m j aH y:=λWM=>⟨_,_,(f.bz WM).aj⟩
 refine ⟨iQ r tb m j aH,q (ao.refl _ _),aY.aR m ⟨λy E=>by obtain ⟨WD,WT,E⟩:=E;exact bJ E rfl,aY.aR m ⟨λy E=>by obtain ⟨WD,WT,E⟩:=E;exact bJ E rfl,?_⟩⟩⟩;rintro b1 WV We V8;obtain ⟨Wa,r1⟩:=m4 We V8;clear V8;refine ⟨q Wa,?_⟩;refine aC (x5 (f.bz Wa) N (32+j.dead) r1 rfl (cQ 1) (λe=>by cases e) (λx WB=>by simp at WB;rw [WB];exact Wn) (show 1<=1000000 by decide)) ?_;rintro v WW ⟨bj,rfl,h,WS⟩;have d:=Wa.new WS;have WO:=Wa.size;have h:cF (λk=>k<WV.heap.size) WW bj (uQ j seq m):=h;have last:∀ {y:ak} {ap:an} {ac nn:Nat},ai z y->nn=1+l.length->bH z y ap nn ac (v8 j m seq l)->Calls prog 221 #[ptr aH,.slice ap nn ac] y λe WC=>∃ (s:an) (sl sc:Nat) (b:Bool),e=.returned (.tuple #[.slice s sl sc,.bool b])/\iQ r tb m j aH WC/\R (.bool b) WC:=by intro y ap ac nn g WN V6;have WL:=O.wr.eD;refine aC (nx (f.bz g) (J.new g) ⟨L,C⟩ f.new V4 Z V6 (by rw [<-V6.len];omega)) ?_;rintro v WY ⟨dB,dc,raw,rfl,U,_⟩;refine ⟨_,_,_,_,rfl,⟨_,_,U.eF.aj⟩,Ww _ _ _ WG.symm rfl ?_⟩;exact eH.seq w.az (i.new g) U (by omega)
 have jn:∀ {y:ak} {K:Ending->aE},ai z y->(∀ (a:an) (c:Nat) V9,ai y V9->bH y V9 a l.length c (l.map (nz j m))->K (.returned (.slice a l.length c)) V9)->Calls prog 249 #[ptr aH,m.val,.slice la l.length lc] y K:=by intro y K g WF;refine aC (B5 (f.bz g) N (Wm.new g) O.wr O.lK) ?_;rintro v V9 ⟨a,c,rfl,Wj,h⟩;exact WF a c V9 Wj h
 refine aG.aR bj ⟨rfl,q d,?_,?_⟩
 ·rintro aA WZ Wf Ws;obtain ⟨B,F⟩:=bH.box d (h.mono λk D=>by omega) Wf Ws;have p:=d.new F;refine ⟨q p,jn p λa c W0 H Wo=>⟨_,_,_,rfl,q (p.new H),?_⟩⟩;refine bH.t' (B.new H) (p.new H) Wo (λk D=>by obtain ⟨cl,Q,_⟩:=B.ex;exact Q.lt D) p.size (by have:=O.wr.eD;omega) λap I W1 WE WI P=>⟨q P,last P rfl WE⟩
 ·refine jn d λa c W2 F Wp=>⟨_,_,_,rfl,q (d.new F),?_⟩
  rintro Wv Wu Wg V7;obtain ⟨V5,H⟩:=bH.box (d.new F) ((h.az (ao.b4 F) λ_ _ e=>e).mono λk D=>by omega) Wg V7;have WA:=d.size;have Wl:km (λk=>k<z.heap.size\/aL (some ⟨Wv,0,none⟩) k) Wu a l.length (l.map (nz j m)):=(Wp.hM (M:=λk=>k<z.heap.size) λk _ e=>by omega).wide H λk WK e=>by
   rcases e with e | ⟨o,Q⟩
   ·exact e
   ·exfalso;have:Wv=k/\0=o:=j4 Q;omega
  refine ⟨q ((d.new F).new H),bH.E8 V5 ((d.new F).new H) Wl (by have:=O.wr.eD;omega) λap I WU Wb Wz t=>⟨q t,last t rfl Wb⟩⟩
theorem KU (s:dh w0 u aH tb r m j V (0,0)) (Wf:eP A w0 u tb T G) (V4:fY T) {U:an} {ff:Nat} (V2:bh u U (gj j.v.mem.tail).flatten) (F:fh u la l.length l) (V5:∀ k,aL la k->k≠tb/\k≠aH) (N:qo l) (I:ca seq) (P:ax)
  (Wk:∀ S v bs,S=qL j m seq l (bK G (tB j seq l))->v=.bool S.ok->eH A w0 u aH tb u.heap.size r m j V S bs->R v bs) :
  cv prog (.loop (sub (bp sh) [1,1,1,1,1,1,1,0,1,0,0])) (uc ⟨aH,0,none⟩ la l.length lc (32+j.dead) seq none 0 0 U (j.v.mem.length - 1) ff ((j.v.mem.length - 1:Nat):Int) 0 P)
   (aM 0 (aU (λenv w=>Go.bu.W prog (sub (bp sh) [1,1,1,1,1,1,1,1]) env (dD prog sh R) w) (dD prog sh R))) u:=by
 have Wo:=s.cf.mem;have Ws:=N.wr.eD;have H:=s.aj.lt;have J:=Wf.aj.lt;have Wx:j.v.mem.tail.length=j.v.mem.length - 1:=rr;have f:∀ i,((j.v.mem.tail.take i).map (mZ j seq l)).flatten.length<=60+5:=by
  intro i;have Wi:=yL (b:=l.length+1) ((j.v.mem.tail.take i).map (mZ j seq l)) λx O=>by obtain ⟨m,_,rfl⟩:=cT.1 O;unfold mZ;simp
  rw [ft,iM] at Wi;have WE:min i j.v.mem.tail.length * (l.length+1)<=5 * 13:=p5 (by omega) (by omega);omega
 refine c2 mix (λq env z=>∃ (i n:Nat) (pa:an) (pc:Nat) (P:ax),q=j.v.mem.tail.length - i/\i<=j.v.mem.tail.length/\env=uc ⟨aH,0,none⟩ la l.length lc (32+j.dead) seq pa n pc U (j.v.mem.length - 1) ff ((j.v.mem.length - 1:Nat):Int) i P/\ai u z/\bH u z pa n pc (((j.v.mem.tail.take i).map (mZ j seq l)).flatten)) j.v.mem.tail.length
  ⟨0,0,none,0,_,rfl,by omega,rfl,ao.refl _ _,bH.nil _ _⟩ ?_
 rintro q env z ⟨i,n,pa,pc,P,rfl,WF,rfl,a,c⟩;rw [Qs];have B:=s.bz a;have Ww:=a.size;have Wa:=c.len;have V8:=f i;refine a8 (λWr=>?_) (λWn=>?_)
 ·obtain ⟨bg,hm⟩:∃ bg,j.v.mem.tail[i]?=some bg:=⟨_,bD (by omega)⟩;have Wt:=s.cf.ef bg (tm (b7 hm));have y:dN bg.cn:=by unfold dN;omega
  have X:((j.v.mem.tail.take (i+1)).map (mZ j seq l)).flatten=((j.v.mem.tail.take i).map (mZ j seq l)).flatten++mZ j seq l bg:=by rw [fc,hm];simp
  refine er (cells:=aY.cells) aY.len (by omega) (V2.new a) hm rfl (by omega) λb o V3 _=>aY.aR bg ⟨V3,?_⟩
  refine ea (vs:=bg.cells) rfl (aY.single _) λWg Wz Wm L d=>aY.aR bg ⟨bJ L rfl,?_⟩
  have Wv:=d.size;rw [bC (x:=(i:Int)+1) (by omega) (by omega)];refine aC (B5 (B.bz d) y ((F.new a).new d) N.wr N.lK) ?_;rintro v WG ⟨gI,gc,rfl,g,Wb⟩;refine ⟨_,_,_,rfl,?_⟩;have E:∀ k,aL pa k->k<Wz.heap.size:=λk Wp=>by obtain ⟨cl,V',_⟩:=c.ex;have:=V'.lt Wp;omega
  refine bH.t' ((c.new d).new g) ((a.new d).new g) Wb E (by omega) (by omega) λap Wd WA Wj V7 D=>?_
  have C:=s.bz D;have M:av WA Wg bg.cells eI:=V7.aj (ai.aj g L) λe=>by obtain ⟨cl,V',_⟩:=c.ex;have:=V'.lt e;omega
  refine aY.aR bg ⟨bJ M rfl,?_⟩;rintro dq WB Z K;obtain ⟨h,Wy⟩:=m4 Z K;clear K;refine aC (x5 (C.bz h) y (32+j.dead) Wy rfl (cQ 1) (λe=>by cases e) (λx O=>by simp at O;rw [O];exact I) (show 1<=1000000 by decide)) ?_;rintro v WC ⟨bj,rfl,p,V9⟩;have p:cF (λk=>k<WB.heap.size) WC bj (uQ j seq bg):=p;refine aG.aR bj ⟨rfl,?_⟩;rintro WD WH Y Wc;refine bH.lQ (Wj.new h) (D.new h) V9 p (by omega) Y Wc λQ t WI We Wq V_=>?_
  have Wh:((j.v.mem.tail.take i).map (mZ j seq l)).flatten++l.map (nz j bg)++[uQ j seq bg]=((j.v.mem.tail.take (i+1)).map (mZ j seq l)).flatten:=by rw [X];unfold mZ;rw [lr]
  rw [Wh] at We;exact ⟨j.v.mem.tail.length - (i+1),by omega,i+1,_,Q,t,_,rfl,by omega,rfl,V_,We⟩
 ·have V6:i=j.v.mem.tail.length:=by omega
  subst V6;rw [hx] at c Wa V8;refine KT B (Wf.new a) V4 s.new J H a c (by omega) (F.new a) V5 N I _ λS v bs Wl al Wu=>Wk S v bs Wl al ?_
  exact Wu.of a (cQ _)
theorem JK (N:dh w0 u aH tb r m j V (0,0)) (Wt:eP A w0 u tb T G) (Wi:fY T) (Wk:kS w0 u aH tb V aT) (Wd:aT.length=j.v.mem.length) {W:List aK} (V5:fh u q.eu q.dO W) (J:∀ k,aL q.eu k->k≠tb/\k≠aH) (V9:fy q.Seq W 256=0) (Wp:∀ x ∈ fi q.Seq W,ca x) (Wv:qo W) :
  a9 227 [ptr aH,q.val] u (k' A w0 u aH tb r m j V (pV j m q.Seq W aT G)):=by
 refine bc Tryz.func227 ?_;rw [ptr,Ry];have Ww:=N.aj.lt;have Wz:=Wt.aj.lt;have Wj:=N.cf.dead;have ar:=N.bM.dead;obtain ⟨_,WG,_⟩:=jj V9;rintro b1 w1 Wg V_;obtain ⟨z,c⟩:=bl Wg V_;have z:av w1 b1 q.cells eo:=z;clear V_;have Wo:=c.size;refine bY.aR q ⟨bJ z rfl,?_⟩;refine aC (KR (N.bz c) (Wt.new c) Wi (Wk.new c) Wd (V5.new c) V9 Wp) ?_;rintro v WM ⟨rfl,o⟩;have g:=o.of (B':=u.heap.size) c Wo;refine ⟨_,rfl,ev (λZ=>?_) (λWy=>?_)⟩
 ·have e:pV j m q.Seq W aT G=k4 j q.Seq W aT G:=if_pos Z;exact ⟨by rw [e,Z],by rw [e];exact g⟩
 have Q:pV j m q.Seq W aT G=pq j m q.Seq W (fp j m W (k4 j q.Seq W aT G).a4):=if_neg (by rw [Wy];simp);obtain ⟨WF,O,Wq⟩:=oA Wy;have V8:=o.eF;rw [show (k4 j q.Seq W aT G).out=(0,0) from WF] at V8;obtain ⟨WJ,We,D,R⟩:=o.fS;rw [show (k4 j q.Seq W aT G).ask=none from O] at R;rw [show (k4 j q.Seq W aT G).dE=false from Wq] at D;have d:b1≠tb/\b1≠aH:=by constructor<;>omega
 have H:=o.az.aj z λe=>e.elim d.1 d.2
 have V6:=vx (V5.new c) o.az λk O e=>e.elim (J k O).1 (J k O).2
 refine bY.aR q ⟨bJ H rfl,?_⟩;refine aC (IJ V8 We ⟨R,D⟩ V6 J Wv.wr) ?_;rintro v WA ⟨pa,pc,rfl,h,t,Wm⟩;have s:=KS (j:=j) (m:=m) (W:=W) (G:=(k4 j q.Seq W aT G).a4);generalize WC:(k4 j q.Seq W aT G).a4=a at h t Q s;have b:eH A w0 u aH tb u.heap.size r m j V (fp j m W a) WA:=eH.seq g.az (ao.refl _ _) h (g.az.size);refine ⟨_,_,_,_,rfl,ev (λZ=>?_) (λw=>?_)⟩
 ·have e:pq j m q.Seq W (fp j m W a)=fp j m W a:=if_pos Z;exact ⟨by rw [Q,e,Z],by rw [Q,e];exact b⟩
 have Wc:pq j m q.Seq W (fp j m W a)=if (gq j W (fp j m W a).done (fp j m W a).done.length).length=0 then fp j m W a else qL j m q.Seq (gq j W (fp j m W a).done (fp j m W a).done.length) (bK (fp j m W a).a4 (tB j q.Seq (gq j W (fp j m W a).done (fp j m W a).done.length))):=if_neg (by rw [w];simp);have B:=oA w;have V4:(fp j m W a).out=(0,0):=B.1;have V2:(fp j m W a).ask=none:=B.2.1;have F:(fp j m W a).dE=false:=B.2.2;clear B;have Y:(fp j m W a).done.length<=W.length:=s;generalize fp j m W a=P at h b t Q Wc V4 V2 F Y w;have C:=h.eF;rw [show P.out=(0,0) from V4] at C;obtain ⟨WK,Wf,E,U⟩:=h.fS;rw [show P.ask=none from V2] at U;rw [show P.dE=false from F] at E;have V7:=KI (j:=j) (ds:=P.done) Y;have Wn:=Bm j W P.done P.done.length;generalize gq j W P.done P.done.length=l at t Wc V7 Wn;rw [Q,Wc];refine dY (λWB=>?_) (λWB=>?_)
 ·rw [if_pos (by omega)];exact ⟨by rw [show P.ok=true from w],b⟩
 rw [if_neg (by omega)];have Wa:=h.az.aj H λe=>e.elim d.1 d.2
 rintro Ws V';have K:ai WA Ws:=by rw [V'];exact cE _
 clear V';have X:=C.bz K;have Wb:=ai.aj K Wa;refine ⟨λy=>ai Ws y,ao.refl _ _,r.eO,λy Wr=>(ai.aj Wr X.aj).cell (i:=5) rfl,q.Seq,λy Wr=>(ai.aj Wr Wb).cell (i:=0) rfl,?_⟩;dsimp only;rw [ar,kh (x:=q.Seq) (by omega) (by omega)];refine aC (vG Ws Wj) ?_;rintro v WN ⟨rfl,L⟩;have I:=X.bz L;obtain ⟨WI,M⟩:=N.bM.view;refine ⟨_,rfl,L,c3.aR r.View ⟨bJ I.aj rfl,?_⟩⟩;refine aC (BR (M.new I.new) N.cf.mem.1) ?_;rintro v WH ⟨WL,ff,rfl,V3,Wh⟩;refine ⟨_,_,_,rfl,?_⟩;have f:=(K.new L).new V3;have n:=Wv.sub V7 (by omega);have s:fh WH pa l.length l:=⟨t.new f,rfl,by have:=n.wr.eD;omega,λp Wl=>(n.wr.ok p Wl).2.2.2.2⟩;have WE:=g.az.size;have Wu:=b.az.size;have Wx:=f.size;refine KU (I.bz V3) (Wf.new f) ⟨U,E⟩ Wh s (λk O=>?_) n (seq:=q.Seq) ⟨by omega,by omega⟩ _ λS v bs WD al Wl=>?_
 ·have:=Wm k O;constructor<;>omega
 ·rw [<-WD];exact ⟨al,eH.seq b.az f Wl (by omega)⟩
end
end
end Go.Proofs.YtmkljjbioomepaaGreat
