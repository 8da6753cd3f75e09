import Derived.Test.YtmkljjbioomepaaGreatd30
set_option linter.all false
set_option maxHeartbeats 4000000
set_option maxRecDepth 100000
namespace Go.Proofs.YtmkljjbioomepaaGreat
open Go.Proofs.Tryz Go.bs
variable {G:List (List aM)} {aV:List a8} {R:cz} {V:gl} {j:ca} {l:List aK} {la a2:an} {lc n pc aI tb:Nat} {m:a0} {q:b0} {r:dE} {seq:Int} {u w0:ak} {vs:List aQ}
section
noncomputable abbrev jf:Func:=f247
def zr (j:ca) (seq:Int) (W:List aK) (bg:a0):List aQ:=[lZ j bg (e' j.dead) [0],lZ j bg (e' j.dead+8) (fo seq W),lZ j bg (e' j.dead) [fX seq]]
theorem nk {y a:ak} {b:Nat} {x:Int} (c:b=y.heap.size) (hw:a=y.alloc (.cells #[.int .u64 x] 30)):ai y a/\bk a (some ⟨b,0,none⟩) (us [x]):=by obtain ⟨au,d⟩:=bl (zs:=(us [x]).toArray) c hw;exact ⟨d,fu au rfl⟩
theorem JP {z:ak} {o:Int×Int} (XG:dg w0 z aI tb r m j V o) {b1 L:Nat} {bg:a0} (X7:av z b1 q.cells er) (X8:av z L bg.cells eG) (X1:d9 bg.cq) {W:List aK} (X3:fm z q.eH q.dT W) (XK:fH q.Seq W 256=0) (XC:∀ x ∈ fo q.Seq W,cj x) (XD:cj (fX q.Seq)) (XI:ai u z)
  (XL:bK u z a2 n pc vs) (Yh:n<=1000) (O:an) (U Q:Nat) (X Y:Int) (X9:ax) {QX:Exit->ax->aF}
  (S:∀ Yc ap D X9,bK u Yc ap (n+3) D (vs++zr j q.Seq W bg)->ai u Yc->QX .normal (lR ⟨aI,0,none⟩ ⟨b1,0,none⟩ (fX q.Seq) ap (n+3) D O U Q X Y X9) Yc) :
  Go.bs.W prog (sub (bn jf) [1,1,1,0,1,0,0,1,1,0,0,1,1]) (Af ⟨aI,0,none⟩ ⟨b1,0,none⟩ (fX q.Seq) a2 n pc ⟨L,0,none⟩ O U Q X Y X9) (bI prog jf R QX) z:=by
 rw [Si];have XH:=XG.b8.dead;have aq:=XG.bQ.dead;obtain ⟨_,X5,XZ,_⟩:=jy XK;refine ⟨r.eV,XG.aj.cell (i:=5) rfl,?_⟩;rw [aq];refine aD (y7 z XH) ?_;rintro v Yp ⟨rfl,rfl⟩;refine ⟨_,rfl,?_⟩;rintro Xw XM;have A:ai Yp Xw:=by rw [XM];exact cK _
 clear XM;have X4:∀ k,aL a2 k->k<Yp.heap.size:=λk S=>by obtain ⟨cp,XP,_⟩:=XL.ex;exact XP.lt S
 have Yv:=A.size;have Yw:=XI.size;have p:∀ {y:ak},ai Xw y->av y L bg.cells eG/\av y b1 q.cells er/\jc r tb m j aI y:=λ{y} J=>⟨ai.aj (A.new J) X8,ai.aj (A.new J) X7,_,_,(XG.bB (A.new J)).aj⟩
 have wr:∀ {y:ak} {K:Ending->aF} {a:an} {l c:Nat} {ws:a8} (at_:Int),ai Xw y->bk y a (us ws)->l=ws.length->l<=c->(∀ x ∈ ws,cj x)->ws.length<=1000->ws≠[]->(∀ (bj:aG) s,ai y s->cL (λk=>k<y.heap.size) s bj (lZ j bg at_ ws)->K (.returned bj.val) s)->Calls prog 250 #[ptr aI,bg.val,.int .i64 at_,.slice a l c] y K:=by
  intro y K a l c ws at_ J XQ XZ X0 hu hw Yu Xz
  refine aD (wn (XG.bB (A.new J)) X1 at_ XQ XZ X0 (λe=>?_) hu (by omega)) ?_
  ·rcases XQ with XO | ⟨dm,YC,XO,_⟩
   ·have:=congrArg List.length XO;rw [hO,qd] at this;exact fF this
   ·rw [e] at XO;cases XO
  ·rintro v s ⟨bj,rfl,X6,XB⟩;exact Xz bj s XB X6
 have F:∀ {y:ak} {K:Ending->aF} {b:Nat} {x:Int},ai Xw y->bk y (some ⟨b,0,none⟩) (us [x])->cj x->(∀ (bj:aG) s,ai y s->cL (λk=>k<y.heap.size) s bj (lZ j bg (e' j.dead) [x])->K (.returned bj.val) s)->Calls prog 250 #[ptr aI,bg.val,.int .i64 (e' j.dead),.slice (some ⟨b,0,none⟩) 1 1] y K:=λJ XQ hu Xz=>wr _ J XQ rfl (cY 1) (λy B=>by simp at B;rw [B];exact hu) (by simp) (by simp) Xz
 have ez:∀ {y:ak} {K:Ending->aF},ai Xw y->(∀ (a:an) (c:Nat) s,ai y s->bk s a (us (fo q.Seq W))->3+9 * W.length<=c->K (.returned (.slice a (3+9 * W.length) c)) s)->Calls prog 210 #[q.val] y K:=by intro y K J Xz;refine aD (yU (X3.new (A.new J)) XK ⟨X5.1,X5.2.1⟩ X5.2.2.2 XZ) ?_;rintro v s ⟨a,c,rfl,XB,XP,_⟩;exact Xz a c s XB XP.rd (a1.le XP)
 have lb:∀ {y:ak} {K:Ending->aF},K (.returned (.int .i64 (e' j.dead+8))) y->Calls prog 209 #[.int .i64 j.dead] y K:=by intro y K Xz;refine aD (D4 y XH) ?_;rintro v s ⟨rfl,rfl⟩;exact Xz
 have P:=pD q.Seq W;have bne:fo q.Seq W≠[]:=λe=>by rw [e] at P;simp at P <;> omega
 have fin:∀ {Z M XT XU XV XN:ak} {v1 v2 w:aG},ai Xw Z->ai Z M->cL (λk=>k<Z.heap.size) M v1 (lZ j bg (e' j.dead) [0])->ai M XT->ai XT XU->cL (λk=>k<XT.heap.size) XU v2 (lZ j bg (e' j.dead+8) (fo q.Seq W))->ai XU XV->ai XV XN->cL (λk=>k<XV.heap.size) XN w (lZ j bg (e' j.dead) [fX q.Seq])->∀ (a9:Nat->an->Nat->Nat->ax) (b:Nat) (y:ak),b=XN.heap.size->y=XN.alloc (.cells #[.int .i64 v1.Kind,.int .i64 v1.Node,.int .i64 v1.bZ,.int .i64 v1.N,.int .u64 v1.Old,.int .u64 v1.ai,.slice v1.Words v1.cQ v1.cJ,.int .u64 v1.Key,.int .i64 v1.cq,.int .i64 v2.Kind,.int .i64 v2.Node,.int .i64 v2.bZ,.int .i64 v2.N,.int .u64 v2.Old,.int .u64 v2.ai,.slice v2.Words v2.cQ v2.cJ,.int .u64 v2.Key,.int .i64 v2.cq,.int .i64 w.Kind,.int .i64 w.Node,.int .i64 w.bZ,.int .i64 w.N,.int .u64 w.Old,.int .u64 w.ai,.slice w.Words w.cQ w.cJ,.int .u64 w.Key,.int .i64 w.cq] cF)->
   (av y L bg.cells eG/\av y b1 q.cells er/\jc r tb m j aI y)/\∃ (ap:an) (da ac:Nat),∃ s,(Builtin.append_ #[gI,gI] gI #[(.slice a2 n pc),(.slice (some ⟨b,0,none⟩) 3 3)]).run prog y=.ok (.slice ap da ac) s/\(av s L bg.cells eG/\av s b1 q.cells er/\jc r tb m j aI s)/\QX .normal (lR ⟨aI,0,none⟩ ⟨b1,0,none⟩ (fX q.Seq) ap da ac O U Q X Y (a9 b ap da ac)) s:=by
  intro Z M XT XU XV XN v1 v2 w na fN I nc nd Xx ne Yi Xy a9 b y h B;obtain ⟨au,J⟩:=bl h B;have au:av y b (v1.cells++v2.cells++w.cells) cF:=au;have s1:=na.size;have s2:=fN.size;have YD:=nc.size;have YE:=nd.size;have YF:=ne.size;have Yx:=bK.three fN I (nc.new nd) (Xx.mono λk S=>by omega) (ne.new Yi) (Xy.mono λk S=>by omega) h au J;have E:ai Xw y:=((((na.new fN).new nc).new nd).new ne).new (Yi.new J);refine ⟨p E,?_⟩;have al:=XL.new (A.new E);obtain ⟨cp,XJ,_⟩:=al.ex;have off:∀ {b:Nat} {cs:ax} {T:TypeId},T≠cF->av y b cs T->¬ aL a2 b:=λYt h S=>by obtain ⟨Yr,XY⟩:=fT XJ S;exact XY.ne h (λe=>Yt e.symm) rfl
  obtain ⟨Ye,Yf,Yd,Yj,Yg⟩:=p E;refine bK.ui al (XI.new (A.new E)) Yx (λk S=>by have:=X4 k S;omega) (by omega) (by omega) λap D s Ys XA X2=>⟨⟨XA.aj Ye (off (by decide) Ye),XA.aj Yf (off (by decide) Yf),Yd,Yj,XA.aj Yg (off (by decide) Yg)⟩,S s ap D _ Ys X2⟩
 have rest:∀ {Z M:ak} {v1:aG} {XX:Nat} {a9:aG->aG->Nat->an->Nat->Nat->an->Nat->Nat->ax},ai Xw Z->ai Z M->cL (λk=>k<Z.heap.size) M v1 (lZ j bg (e' j.dead) [0])->bk M (some ⟨XX,0,none⟩) (us [fX q.Seq])->Calls prog 210 #[q.val] M λe Yk=>∃ (b:an) (P fi:Nat),e=.returned (.slice b P fi)/\(λy=>av y L bg.cells eG/\av y b1 q.cells er/\jc r tb m j aI y) Yk/\Calls prog 250 #[ptr aI,bg.val,.int .i64 (e' j.dead+8),.slice b P fi] Yk λe Yl=>aG.ex λG=>e=.returned G.val/\(λy=>av y L bg.cells eG/\av y b1 q.cells er/\jc r tb m j aI y) Yl/\Calls prog 250 #[ptr aI,bg.val,.int .i64 (e' j.dead),.slice (some ⟨XX,0,none⟩) 1 1] Yl λe Ya=>aG.ex λH=>e=.returned H.val/\(λy=>av y L bg.cells eG/\av y b1 q.cells er/\jc r tb m j aI y) Ya/\∀ XW XE,XW=Ya.heap.size->XE=Ya.alloc (.cells #[.int .i64 v1.Kind,.int .i64 v1.Node,.int .i64 v1.bZ,.int .i64 v1.N,.int .u64 v1.Old,.int .u64 v1.ai,.slice v1.Words v1.cQ v1.cJ,.int .u64 v1.Key,.int .i64 v1.cq,.int .i64 G.Kind,.int .i64 G.Node,.int .i64 G.bZ,.int .i64 G.N,.int .u64 G.Old,.int .u64 G.ai,.slice G.Words G.cQ G.cJ,.int .u64 G.Key,.int .i64 G.cq,.int .i64 H.Kind,.int .i64 H.Node,.int .i64 H.bZ,.int .i64 H.N,.int .u64 H.Old,.int .u64 H.ai,.slice H.Words H.cQ H.cJ,.int .u64 H.Key,.int .i64 H.cq] cF)->(λy=>av y L bg.cells eG/\av y b1 q.cells er/\jc r tb m j aI y) XE/\∃ (ap:an) (da ac:Nat),∃ XF,(Builtin.append_ #[gI,gI] gI #[(.slice a2 n pc),(.slice (some ⟨XW,0,none⟩) 3 3)]).run prog XE=.ok (.slice ap da ac) XF/\(λy=>av y L bg.cells eG/\av y b1 q.cells er/\jc r tb m j aI y) XF/\QX .normal (lR ⟨aI,0,none⟩ ⟨b1,0,none⟩ (fX q.Seq) ap da ac O U Q X Y (a9 G H XW ap da ac b P fi)) XF
  :=by
  intro Z M v1 XX a9 na fN I YA;refine ez (na.new fN) λa c Yn t XR lc=>⟨_,_,_,rfl,p ((na.new fN).new t),?_⟩
  refine wr (e' j.dead+8) ((na.new fN).new t) XR P.symm lc XC (by omega) bne λv2 Yo C Xx=>aG.aT v2 ⟨rfl,p (((na.new fN).new t).new C),?_⟩
  refine F (((na.new fN).new t).new C) (YA.new (t.new C)) XD λw Yb Xv Xy=>aG.aT w ⟨rfl,p ((((na.new fN).new t).new C).new Xv),?_⟩
  exact fin na fN I t C Xx (ao.refl _ _) Xv Xy _
 refine ⟨λy=>av y L bg.cells eG/\av y b1 q.cells er/\jc r tb m j aI y,p (ao.refl _ _),a0.aT bg ⟨λy B=>bO B.1 rfl,a0.aT bg ⟨λy B=>bO B.1 rfl,r.eV,λy B=>by obtain ⟨_,_,Yd,Yj,B⟩:=B;exact B.cell (i:=5) rfl,b0.aT q ⟨λy B=>bO B.2.1 rfl,a0.aT bg ⟨λy B=>bO B.1 rfl,?_⟩⟩⟩⟩⟩;rw [aq];refine ⟨λYq YG h hw=>?_,λYB Yb h hw=>?_⟩
 ·obtain ⟨d,r1⟩:=nk h hw;clear h hw;refine ⟨p d,F d r1 hq λv1 Ym f I=>aG.aT v1 ⟨rfl,p (d.new f),?_,?_⟩,λb Ym h hw=>?_⟩
  ·refine lb ⟨_,rfl,p (d.new f),?_,?_⟩
   ·refine ez (d.new f) λa c XS g XR lc=>⟨_,_,_,rfl,p ((d.new f).new g),?_,?_⟩
    ·refine wr (e' j.dead+8) ((d.new f).new g) XR P.symm lc XC (by omega) bne λv2 Yn t Xx=>aG.aT v2 ⟨rfl,p (((d.new f).new g).new t),λb Yo h hw=>?_⟩
     obtain ⟨C,Yz⟩:=nk h hw;clear h hw;refine ⟨p ((((d.new f).new g).new t).new C),F ((((d.new f).new g).new t).new C) Yz XD λw Yb Xv Xy=>aG.aT w ⟨rfl,p (((((d.new f).new g).new t).new C).new Xv),?_⟩⟩;exact fin d f I g t Xx C Xv Xy (λb ap da ac=>_)
    ·intro b Yn h hw;obtain ⟨t,Yy⟩:=nk h hw;clear h hw;refine ⟨p (((d.new f).new g).new t),wr (e' j.dead+8) (((d.new f).new g).new t) (XR.new t) P.symm lc XC (by omega) bne λv2 Yo C Xx=>aG.aT v2 ⟨rfl,p ((((d.new f).new g).new t).new C),?_⟩⟩;refine F ((((d.new f).new g).new t).new C) (Yy.new C) XD λw Yb Xv Xy=>aG.aT w ⟨rfl,p (((((d.new f).new g).new t).new C).new Xv),?_⟩
     exact fin d f I (g.new t) C Xx (ao.refl _ _) Xv Xy (λb ap da ac=>_)
   ·intro b XS h hw;obtain ⟨g,X'⟩:=nk h hw;clear h hw;exact ⟨p ((d.new f).new g),rest d (f.new g) (I.aA (ao.b9 g) λ_ _ e=>e) X'⟩
  ·intro b XS h hw;obtain ⟨g,X'⟩:=nk h hw;clear h hw;exact ⟨p ((d.new f).new g),lb ⟨_,rfl,p ((d.new f).new g),rest d (f.new g) (I.aA (ao.b9 g) λ_ _ e=>e) X'⟩⟩
  ·obtain ⟨f,X_⟩:=nk h hw;clear h hw;refine ⟨p (d.new f),F (d.new f) (r1.new f) hq λv1 XS g I=>aG.aT v1 ⟨rfl,p ((d.new f).new g),lb ⟨_,rfl,p ((d.new f).new g),?_⟩⟩⟩;exact rest (d.new f) g I (X_.new g)
 ·obtain ⟨d,r1⟩:=nk h hw;clear h hw;refine ⟨p d,λb Ym h hw=>?_⟩;obtain ⟨f,X_⟩:=nk h hw;clear h hw;refine ⟨p (d.new f),F (d.new f) X_ hq λv1 XS g I=>aG.aT v1 ⟨rfl,p ((d.new f).new g),lb ⟨_,rfl,p ((d.new f).new g),?_⟩⟩⟩;exact rest (d.new f) g I ((r1.new f).new g)
end
section
def rE (j:ca) (seq:Int) (W:List aK) (L:a8):Bool:=gx L j.lines && wF (seq,W) (fp L j.lines)
def x_ (j:ca) (seq:Int) (W:List aK) (aV:List a8) (i:Nat):List aQ:=if rE j seq W (aV.getD i [])=true then [] else zr j seq W (j.v.mem.getD i jW)
def nT (j:ca) (seq:Int) (W:List aK) (aV:List a8) (n:Nat):List aQ:=((List.range n).map (x_ j seq W aV)).flatten
def lf (j:ca) (seq:Int) (W:List aK) (aV:List a8) (G:List (List aM)):cr:=bP G (nT j seq W aV j.v.mem.length)
theorem CM (j:ca) (seq:Int) (W:List aK) (aV:List a8) (n:Nat):nT j seq W aV (n+1)=nT j seq W aV n++x_ j seq W aV n:=by unfold nT;rw [ku];simp
theorem vN {w w':ak} {a:an} {W:List aK} (h:fm w a n W) {M:a6} (c:ao M w w') (b:∀ k,aL a k->¬ M k):fm w' a n W:=⟨h.rd.aA c (hk h.rd b),h.len,h.eB,h.u64⟩
abbrev Hl (R:cz) (N:ax->aF) (Q:Exit->ax->aF):Exit->ax->aF:=aP 1 (aZ (λenv w=>Go.bs.W prog (sub (bn jf) [1,1,1,0,1,0,0,1,1,1]) env (bI prog jf R (aZ N Q)) w) (bI prog jf R (aZ N Q)))
abbrev Hk (R:cz) (N:ax->aF) (Q:Exit->ax->aF):Exit->ax->aF:=bI prog jf R (aZ (λenv w=>Go.bs.W prog (sub (bn jf) [1,1,1,0,1,0,0,1,1,0,0,1,1]) env (Hl R N Q) w) (Hl R N Q))
theorem MR {A:a6} {T:gn} (XF:dg w0 u aI tb r m j V (0,0)) (Yf:eP A w0 u tb T G) (X1:ga T) (Yt:k1 w0 u aI tb V aV) (Yn:aV.length=j.v.mem.length) {W:List aK} (XL:fm u q.eH q.dT W) (XN:fH q.Seq W 256=0) (X8:∀ x ∈ fo q.Seq W,cj x) :
  bb 247 [ptr aI,q.val] u (lq A w0 u aI tb r m j V (lf j q.Seq W aV G)):=by
 refine bd Tryz.func247 ?_;rw [ptr,S'];generalize XY:lq A w0 u aI tb r m j V (lf j q.Seq W aV G)=P;obtain ⟨⟨Ya,X7,X6,Yy,XI⟩,Yh⟩:=Yt;have Yi:=XF.aj.lt;have Yl:=Yf.aj.lt;have Yr:=XF.b8.mem;have U:=XF.bQ.lines;obtain ⟨_,XO,_⟩:=jy XN;obtain ⟨YE,K⟩:=XF.bQ.view;have hlen:=K.len;rintro b1 w1 XZ XQ;obtain ⟨O,B⟩:=bl XZ XQ;have O:av w1 b1 q.cells er:=O;clear XQ;have X5:=B.size;have Q:=XF.bB B;refine ⟨_,O.cell (i:=0) rfl,?_⟩;refine aD (zz w1 ⟨XO.1,XO.2.1⟩) ?_;rintro v XG ⟨rfl,rfl⟩;refine ⟨_,_,rfl,_,_,_,Q.aj.cell (i:=4) rfl,?_⟩;refine c8 mix (λk env z=>∃ (i n:Nat) (a2:an) (pc:Nat) (D:ax),k=j.v.mem.length - i/\i<=j.v.mem.length/\n<=3 * i/\env=uk ⟨aI,0,none⟩ ⟨b1,0,none⟩ (fX q.Seq) a2 n pc r.View.fh r.View.eW r.View.fQ r.View.eW i D/\ai XG z/\bK XG z a2 n pc (nT j q.Seq W aV i)) j.v.mem.length
  ⟨0,0,none,0,_,by omega,by omega,by omega,rfl,ao.refl _ _,bK.nil _ _⟩ ?_
 rintro k env z ⟨i,n,a2,pc,D,rfl,YF,Yv,rfl,l,X⟩;have XB:=Q.bB l;have XJ:=XB.new;refine hj (fn:=jf) (R:=P) (λ_ _=>rfl) ?_;rw [RJ,hlen];refine bc (λXC=>?_) (λYq=>?_)
 ·obtain ⟨bg,hm⟩:∃ bg,j.v.mem[i]?=some bg:=⟨_,bE (by omega)⟩;obtain ⟨s,Yj⟩:∃ s,Ya[i]?=some s:=⟨_,bE (by omega)⟩;obtain ⟨L,Ye⟩:∃ L,aV[i]?=some L:=⟨_,bE (by omega)⟩;have XH:=XI i s L Yj Ye;have Yu:=XF.b8.ee bg (b5 hm);have Ym:aV.getD i []=L:=by rw [dq,Ye];rfl
  have em:j.v.mem.getD i jW=bg:=by rw [dq,hm];rfl
  refine eI (cells:=a0.cells) a0.len (by omega) (K.rd.new XJ) hm rfl rfl λb YA X0 _=>a0.aT bg ⟨X0,?_⟩
  refine ec (vs:=bg.cells) rfl (a0.single _) λYc YB Yo X_ H=>?_
  obtain ⟨a',XX⟩:∃ a':ax->aF,∀ env w,a' env w=(∃ b4,b4<j.v.mem.length - i/\∃ (XT n:Nat) (a2:an) (pc:Nat) (D:ax),b4=j.v.mem.length - XT/\XT<=j.v.mem.length/\n<=3 * XT/\env=uk ⟨aI,0,none⟩ ⟨b1,0,none⟩ (fX q.Seq) a2 n pc r.View.fh r.View.eW r.View.fQ r.View.eW XT D/\ai XG w/\bK XG w a2 n pc (nT j q.Seq W aV XT)):=⟨_,λ_ _=>rfl⟩;have XU:∀ {XV:ak} {Y:an} {n' Z:Nat} (D:ax),n'<=3 * (i+1)->ai XG XV->bK XG XV Y n' Z (nT j q.Seq W aV (i+1))->∀ {N:ax->aF} {jr:Exit->ax->aF},(∀ env w,a' env w->N env w)->
    Go.bs.W prog (sub (bn jf) [1,1,1,0,1,0,0,1,1,1]) (lR ⟨aI,0,none⟩ ⟨b1,0,none⟩ (fX q.Seq) Y n' Z r.View.fh j.v.mem.length r.View.fQ (j.v.mem.length:Nat) i D) (bI prog jf P (aZ N jr)) XV:=by
   intro XV Y n' Z D XD XK XP N jr Xx;rw [SI,bH (x:=(i:Int)+1) (by omega) (by omega)];exact eT (Xx _ _ ((XX _ _).mpr ⟨j.v.mem.length - (i+1),by omega,i+1,n',Y,Z,_,rfl,by omega,XD,by rw [hlen];rfl,XK,XP⟩))
  rw [RK];refine hj (fn:=jf) (R:=P) (λ_ _=>rfl) ?_;rw [SF];rintro XW XR;have C:ai YB XW:=by rw [XR];exact cK _
  clear XR;have F:=l.new (H.new C);have S:=Q.bB F;refine ⟨λy=>ai XW y,ao.refl _ _,_,_,_,λy XS=>(ai.aj XS S.aj).cell (i:=13) rfl,?_⟩;refine jj (cells:=mK) (sz:=1) (λ_=>rfl) (by decide) (X7.new (B.new F)) Yj rfl X6 λb' YA X2=>⟨s.a,s.n,s.c,λy XS=>by simpa using X2 y XS 0 _ rfl,r.hs,λy XS=>(ai.aj XS S.aj).cell (i:=2) rfl,?_⟩
  rw [U];have J:nT j q.Seq W aV (i+1)=nT j q.Seq W aV i++(if rE j q.Seq W L=true then [] else zr j q.Seq W bg):=by rw [CM];unfold x_;rw [Ym,em]
  have f4:∀ {y:ak} (t:Bool),t=rE j q.Seq W L->ai XW y->∀ (D:ax) {N:ax->aF} {jr:Exit->ax->aF},(∀ env w,a' env w->N env w)->(∀ env w,jr .ret env w=dC prog jf P .ret env w)->
    Go.bs.W prog (sub (bn jf) [1,1,1,0,1,0,0,1,1,0,0,1,0,1,1]) (w2 ⟨aI,0,none⟩ ⟨b1,0,none⟩ (fX q.Seq) a2 n pc ⟨Yc,0,none⟩ r.View.fh j.v.mem.length r.View.fQ (j.v.mem.length:Nat) i t D) (Hk P N jr) y:=by
   intro y t Yk g D N jr Xx Xy;rw [SH];have Yg:=F.new g;refine f' (λXz=>?_) (λXz=>?_)
   ·refine p7 (pJ (eT (XU _ (by omega) (l.new ((H.new C).new g)) ?_ Xx)));rw [J,if_pos (by rw [<-Yk,Xz]),jJ];exact X.new ((H.new C).new g)
   ·refine eT (hj (fn:=jf) (R:=P) (λ_ _=>rfl) ?_);have d:=(H.new C).new g;refine JP (XB.bB d) (ai.aj (l.new d) O) (ai.aj (C.new g) X_) (by unfold d9;omega) ((XL.new B).new (l.new d)) XN X8 (y6 _) (l.new d) (X.new d) (by omega) _ _ _ _ _ _ λXV ap Yd Yz X9 XD=>?_
    refine pI (eT (XU _ (by omega) XD ?_ Xx));rw [J,if_neg (by rw [<-Yk,Xz];simp)];exact X9
  have f3:∀ {y:ak} {Xw:Nat} {pb:an} {aY:Nat},av y Xw (b0.cells ⟨(fp L j.lines).1,pb,(fp L j.lines).2.length,aY⟩) er->ai XW y->fm y pb (fp L j.lines).2.length (fp L j.lines).2->∀ (D:ax) {N:ax->aF} {jr:Exit->ax->aF},(∀ env w,a' env w->N env w)->(∀ env w,jr .ret env w=dC prog jf P .ret env w)->
    Go.bs.W prog (sub (bn jf) [1,1,1,0,1,0,0,1,1,0,0,1,0,1]) (wZ ⟨aI,0,none⟩ ⟨b1,0,none⟩ (fX q.Seq) a2 n pc ⟨Yc,0,none⟩ ⟨Xw,0,none⟩ (gx L j.lines) r.View.fh j.v.mem.length r.View.fQ (j.v.mem.length:Nat) i D) (Hk P N jr) y:=by
   intro y Xw pb aY X' g XM D N jr Xx Xy;rw [RL];refine hj (fn:=jf) (R:=P) (λ_ _=>rfl) ?_;rw [SG];have d:=l.new ((H.new C).new g);refine f' (λXz=>?_) (λXz=>?_)
   ·refine b0.aT q ⟨bO (ai.aj d O) rfl,b0.aT _ ⟨bO X' rfl,?_⟩⟩;refine aD (O2 ((XL.new B).new d) XM) ?_;rintro v YH ⟨rfl,f⟩;refine ⟨_,rfl,eT (f4 _ ?_ (g.new f) _ Xx Xy)⟩;unfold rE;rw [Xz];rfl
   ·refine eT (f4 _ ?_ g _ Xx Xy);unfold rE;rw [Xz];rfl
  refine ⟨?_,?_⟩
  ·refine aD (A7 j.lines (XH.new S.new)) ?_;rintro v YC ⟨pb,aY,rfl,o,I,Xv⟩;refine b0.aT ⟨(fp L j.lines).1,pb,(fp L j.lines).2.length,aY⟩ ⟨_,rfl,o,?_⟩;rintro Xw Yb XA M;obtain ⟨p,f⟩:=bl XA M;have p:av Yb Xw iZ.cells er:=p;clear M;refine ⟨o.new f,dQ (vs:=b0.cells ⟨(fp L j.lines).1,pb,(fp L j.lines).2.length,aY⟩) p rfl (b0.single _) λYD XE E=>?_⟩;have Yw:=o.size;exact f3 XE ((o.new f).trans E λk XC e=>by omega) (I.new (f.trans E λk XC e=>by omega)) _ (λenv w h=>by rw [XX,hlen] at h;exact h) λ_ _=>rfl
  ·rintro Xw Yb XA M;obtain ⟨p,f⟩:=bl XA M;have p:av Yb Xw iZ.cells er:=p;clear M;refine ⟨f,aD (A7 j.lines (XH.new (S.bB f).new)) ?_⟩;rintro v YC ⟨pb,aY,rfl,o,I,Xv⟩;have Yx:=f.size;have Yp:=p.lt;refine b0.aT ⟨(fp L j.lines).1,pb,(fp L j.lines).2.length,aY⟩ ⟨_,rfl,f.new o,dQ (vs:=b0.cells ⟨(fp L j.lines).1,pb,(fp L j.lines).2.length,aY⟩) (ai.aj o p) rfl (b0.single _) λYD XE E=>?_⟩;exact f3 XE ((f.new o).trans E λk XC e=>by omega) (vN I E λk Ys e=>by have:=Xv k Ys;omega) _ (λenv w h=>by rw [XX,hlen] at h;exact h) λ_ _=>rfl
 ·have X3:i=j.v.mem.length:=by omega
  subst X3;refine p7 (pJ (eT ?_));refine hj (fn:=jf) (R:=P) (λ_ _=>rfl) ?_;rw [lw];refine aD (nM XB (Yf.new (B.new l)) X1 Q.new (by omega) (by omega) X (by rw [<-X.len];omega)) ?_;rintro v YG ⟨dB,dc,raw,rfl,X4,_⟩;rw [<-XY];exact ⟨_,_,_,_,rfl,rfl,X4.of (B.new l) X5⟩
end
section
noncomputable abbrev sr:Func:=f227
def uZ (j:ca) (seq:Int) (bg:a0):aQ:=lZ j bg (32+j.dead) [seq]
def m7 (j:ca) (seq:Int) (l:List aK) (bg:a0):List aQ:=l.map (nN j bg)++[uZ j seq bg]
def tF (j:ca) (seq:Int) (l:List aK):List aQ:=(j.v.mem.tail.map (m7 j seq l)).flatten
def wG (j:ca) (m:a0) (seq:Int) (l:List aK):List aQ:=uZ j seq m::l.map (nN j m)
def qO (j:ca) (m:a0) (seq:Int) (l:List aK) (B:cr):cr:=if B.ok=false then B else bP B.a7 (wG j m seq l)
def pv (j:ca) (m:a0) (seq:Int) (W:List aK) (P:cr):cr:=
 if P.ok=false then P else if (gD j W P.done P.done.length).length=0 then P else qO j m seq (gD j W P.done P.done.length) (bP P.a7 (tF j seq (gD j W P.done P.done.length)))
def p0 (j:ca) (m:a0) (seq:Int) (W:List aK) (aV:List a8) (G:List (List aM)):cr:=
 if (lf j seq W aV G).ok=false then lf j seq W aV G else pv j m seq W (fy j m W (lf j seq W aV G).a7)
theorem KZ {W:List aK} {ds:List aM} (h:n<=W.length):∀ p ∈ gD j W ds n,p ∈ W:=by
 intro p c;unfold gD at c;obtain ⟨l,d,a⟩:=o2.1 c;obtain ⟨i,b,rfl⟩:=cZ.1 d;have b:=fs.1 b;unfold p5 at a;split at a
 ·simp at a;subst a;rw [bE (show i<W.length by omega)];exact kY _
 ·simp at a
theorem OJ (G:List (List aM)) (vs:List aQ):(bP G vs).done.length<=vs.length:=by
 unfold bP cm;split
 ·simp
 split
 ·simp
 ·exact qZ
theorem Ma {W:List aK}:(fy j m W G).done.length<=W.length:=by have:=OJ G (W.map (qm j m));rwa [fZ] at this
structure qs (l:List aK):Prop where
 wr:sf l
 lV:∀ p ∈ l,∀ x ∈ hz p,cj x
theorem qs.sub {W l:List aK} (h:qs W) (hm:∀ p ∈ l,p ∈ W) (b:l.length<=W.length):qs l:=⟨⟨by have:=h.wr.eB;omega,λp a=>h.wr.ok p (hm p a)⟩,λp a=>h.lV p (hm p a)⟩
section
variable {A:a6} {w0 u:ak} {aI tb:Nat} {r:dE} {m:a0} {j:ca} {V:gl} {T:gn} {G:List (List aM)}
theorem Mb (X2:dg w0 u aI tb r m j V (0,0)) (Ya:eP A w0 u tb T G) (XM:ga T) {w1:ak} (XW:ai w0 w1) (Xw:tb<w1.heap.size) (Y:aI<w1.heap.size) (XH:ai w1 u) (XV:bK w1 u a2 n pc vs) (X3:vs.length<=1000) (XP:fm u la l.length l) (XN:∀ k,aL la k->k≠tb/\k≠aI) (O:qs l) (XS:cj seq) (Yk:ax)
  (X1:∀ S v bw,S=qO j m seq l (bP G vs)->v=.bool S.ok->eF A w0 u aI tb w1.heap.size r m j V S bw->R v bw) :
  Go.bs.W prog (sub (bn sr) [1,1,1,1,1,1,1,1]) (Ag ⟨aI,0,none⟩ la l.length lc (32+j.dead) seq a2 n pc Yk) (dC prog sr R) u:=by
 rw [Sj];have N:=X2.ee;refine aD (nM X2 Ya XM XW Xw Y XV (by omega)) ?_;rintro v bG ⟨dB,dc,raw,rfl,w,_⟩;have w:eF A w0 u aI tb w1.heap.size r m j V (bP G vs) bG:=w;refine ⟨_,_,_,_,rfl,ev (λXD=>?_) (λXE=>?_)⟩
 ·have XD:(bP G vs).ok=false:=XD;exact X1 (bP G vs) _ _ (if_pos XD).symm (by rw [XD]) w
 have XE:(bP G vs).ok=true:=XE;obtain ⟨Q,D,XY⟩:=oE XE;have X':qO j m seq l (bP G vs)=bP (bP G vs).a7 (wG j m seq l):=if_neg (by rw [XE];simp);have Xv:=w.eD;rw [Q] at Xv;obtain ⟨Yr,XI,C,L⟩:=w.fY;rw [D] at L;rw [XY] at C;have X:fm bG la l.length l:=vN XP w.aA λk D e=>by have:=XN k D;exact e.elim this.1 this.2
 rintro z au;have i:ai bG z:=by rw [au];exact cK _
 clear au;have f:=Xv.bB i;have J:=XI.new i;have XR:=X.new i;have Yj:=i.size;have Yc:=w.aA.size;have Xx:=J.aj.lt;have Z:=f.aj.lt;have Yi:=XH.size;have q:∀ {y:ak},ai z y->jc r tb m j aI y:=λYf=>⟨_,_,(f.bB Yf).aj⟩
 refine ⟨jc r tb m j aI,q (ao.refl _ _),a0.aT m ⟨λy E=>by obtain ⟨X8,Ym,E⟩:=E;exact bO E rfl,a0.aT m ⟨λy E=>by obtain ⟨X8,Ym,E⟩:=E;exact bO E rfl,?_⟩⟩⟩;rintro b1 Yp XJ XB;obtain ⟨XF,r1⟩:=nk XJ XB;clear XB;refine ⟨q XF,?_⟩;refine aD (wn (f.bB XF) N (32+j.dead) r1 rfl (cY 1) (λe=>by cases e) (λx X6=>by simp at X6;rw [X6];exact XS) (show 1<=1000000 by decide)) ?_;rintro v Yq ⟨bj,rfl,h,Yl⟩;have d:=XF.new Yl;have Yh:=XF.size;have h:cL (λk=>k<Yp.heap.size) Yq bj (uZ j seq m):=h;have last:∀ {y:ak} {ap:an} {ac nn:Nat},ai z y->nn=1+l.length->bK z y ap nn ac (wG j m seq l)->Calls prog 221 #[ptr aI,.slice ap nn ac] y λe X7=>∃ (s:an) (Yn sc:Nat) (b:Bool),e=.returned (.tuple #[.slice s Yn sc,.bool b])/\jc r tb m j aI X7/\R (.bool b) X7:=by intro y ap ac nn g Yg Xz;have Ye:=O.wr.eB;refine aD (nM (f.bB g) (J.new g) ⟨L,C⟩ f.new Xx Z Xz (by rw [<-Xz.len];omega)) ?_;rintro v Ys ⟨dB,dc,raw,rfl,U,_⟩;refine ⟨_,_,_,_,rfl,⟨_,_,U.eD.aj⟩,X1 _ _ _ X'.symm rfl ?_⟩;exact eF.seq w.aA (i.new g) U (by omega)
 have jA:∀ {y:ak} {K:Ending->aF},ai z y->(∀ (a:an) (c:Nat) XC,ai y XC->bK y XC a l.length c (l.map (nN j m))->K (.returned (.slice a l.length c)) XC)->Calls prog 249 #[ptr aI,m.val,.slice la l.length lc] y K:=by intro y K g X_;refine aD (CF (f.bB g) N (XR.new g) O.wr O.lV) ?_;rintro v XC ⟨a,c,rfl,XO,h⟩;exact X_ a c XC XO h
 refine aG.aT bj ⟨rfl,q d,?_,?_⟩
 ·rintro aB Yt XK XX;obtain ⟨B,F⟩:=bK.box d (h.mono λk D=>by omega) XK XX;have p:=d.new F;refine ⟨q p,jA p λa c Yu H XT=>⟨_,_,_,rfl,q (p.new H),?_⟩⟩;refine bK.ui (B.new H) (p.new H) XT (λk D=>by obtain ⟨cp,Q,_⟩:=B.ex;exact Q.lt D) p.size (by have:=O.wr.eB;omega) λap I Yv X9 Yb P=>⟨q P,last P rfl X9⟩
 ·refine jA d λa c Yw F XU=>⟨_,_,_,rfl,q (d.new F),?_⟩
  rintro X0 XZ XL XA;obtain ⟨Xy,H⟩:=bK.box (d.new F) ((h.aA (ao.b9 F) λ_ _ e=>e).mono λk D=>by omega) XL XA;have X5:=d.size;have XQ:ky (λk=>k<z.heap.size\/aL (some ⟨X0,0,none⟩) k) XZ a l.length (l.map (nN j m)):=(XU.hV (M:=λk=>k<z.heap.size) λk _ e=>by omega).wide H λk Yd e=>by
   rcases e with e | ⟨o,Q⟩
   ·exact e
   ·exfalso;have:X0=k/\0=o:=kb Q;omega
  refine ⟨q ((d.new F).new H),bK.FG Xy ((d.new F).new H) XQ (by have:=O.wr.eB;omega) λap I Yo XG X4 t=>⟨q t,last t rfl XG⟩⟩
theorem Mc (s:dg w0 u aI tb r m j V (0,0)) (XK:eP A w0 u tb T G) (Xx:ga T) {U:an} {fi:Nat} (Xv:bk u U (gw j.v.mem.tail).flatten) (F:fm u la l.length l) (Xy:∀ k,aL la k->k≠tb/\k≠aI) (N:qs l) (I:cj seq) (P:ax)
  (XP:∀ S v bw,S=qO j m seq l (bP G (tF j seq l))->v=.bool S.ok->eF A w0 u aI tb u.heap.size r m j V S bw->R v bw) :
  cG prog (.loop (sub (bn sr) [1,1,1,1,1,1,1,0,1,0,0])) (um ⟨aI,0,none⟩ la l.length lc (32+j.dead) seq none 0 0 U (j.v.mem.length - 1) fi ((j.v.mem.length - 1:Nat):Int) 0 P)
   (aP 0 (aZ (λenv w=>Go.bs.W prog (sub (bn sr) [1,1,1,1,1,1,1,1]) env (dC prog sr R) w) (dC prog sr R))) u:=by
 have XT:=s.b8.mem;have XX:=N.wr.eB;have H:=s.aj.lt;have J:=XK.aj.lt;have X2:j.v.mem.tail.length=j.v.mem.length - 1:=o1;have f:∀ i,((j.v.mem.tail.take i).map (m7 j seq l)).flatten.length<=60+5:=by
  intro i;have XN:=zj (b:=l.length+1) ((j.v.mem.tail.take i).map (m7 j seq l)) λx O=>by obtain ⟨m,_,rfl⟩:=cZ.1 O;unfold m7;simp
  rw [fZ,iG] at XN;have X_:min i j.v.mem.tail.length * (l.length+1)<=5 * 13:=p_ (by omega) (by omega);omega
 refine c8 mix (λq env z=>∃ (i n:Nat) (a2:an) (pc:Nat) (P:ax),q=j.v.mem.tail.length - i/\i<=j.v.mem.tail.length/\env=um ⟨aI,0,none⟩ la l.length lc (32+j.dead) seq a2 n pc U (j.v.mem.length - 1) fi ((j.v.mem.length - 1:Nat):Int) i P/\ai u z/\bK u z a2 n pc (((j.v.mem.tail.take i).map (m7 j seq l)).flatten)) j.v.mem.tail.length
  ⟨0,0,none,0,_,rfl,by omega,rfl,ao.refl _ _,bK.nil _ _⟩ ?_
 rintro q env z ⟨i,n,a2,pc,P,rfl,X',rfl,a,c⟩;rw [R3];have B:=s.bB a;have X1:=a.size;have XF:=c.len;have XB:=f i;refine bc (λXW=>?_) (λXS=>?_)
 ·obtain ⟨bg,hm⟩:∃ bg,j.v.mem.tail[i]?=some bg:=⟨_,bE (by omega)⟩;have XY:=s.b8.ee bg (rD (b5 hm));have y:d9 bg.cq:=by unfold d9;omega
  have X:((j.v.mem.tail.take (i+1)).map (m7 j seq l)).flatten=((j.v.mem.tail.take i).map (m7 j seq l)).flatten++m7 j seq l bg:=by rw [ff,hm];simp
  refine eI (cells:=a0.cells) a0.len (by omega) (Xv.new a) hm rfl (by omega) λb o Xw _=>a0.aT bg ⟨Xw,?_⟩
  refine ec (vs:=bg.cells) rfl (a0.single _) λXL X4 XR L d=>a0.aT bg ⟨bO L rfl,?_⟩
  have X0:=d.size;rw [bH (x:=(i:Int)+1) (by omega) (by omega)];refine aD (CF (B.bB d) y ((F.new a).new d) N.wr N.lV) ?_;rintro v Ya ⟨hb,gc,rfl,g,XG⟩;refine ⟨_,_,_,rfl,?_⟩;have E:∀ k,aL a2 k->k<X4.heap.size:=λk XU=>by obtain ⟨cp,XE,_⟩:=c.ex;have:=XE.lt XU;omega
  refine bK.ui ((c.new d).new g) ((a.new d).new g) XG E (by omega) (by omega) λap XI X5 XO XA D=>?_
  have C:=s.bB D;have M:av X5 XL bg.cells eG:=XA.aj (ai.aj g L) λe=>by obtain ⟨cp,XE,_⟩:=c.ex;have:=XE.lt e;omega
  refine a0.aT bg ⟨bO M rfl,?_⟩;rintro X9 X6 Z K;obtain ⟨h,X3⟩:=nk Z K;clear K;refine aD (wn (C.bB h) y (32+j.dead) X3 rfl (cY 1) (λe=>by cases e) (λx O=>by simp at O;rw [O];exact I) (show 1<=1000000 by decide)) ?_;rintro v X7 ⟨bj,rfl,p,XC⟩;have p:cL (λk=>k<X6.heap.size) X7 bj (uZ j seq bg):=p;refine aG.aT bj ⟨rfl,?_⟩;rintro X8 Yb Y XH;refine bK.l3 (XO.new h) (D.new h) XC p (by omega) Y XH λQ t Yc XJ XV XD=>?_
  have XM:((j.v.mem.tail.take i).map (m7 j seq l)).flatten++l.map (nN j bg)++[uZ j seq bg]=((j.v.mem.tail.take (i+1)).map (m7 j seq l)).flatten:=by rw [X];unfold m7;rw [lF]
  rw [XM] at XJ;exact ⟨j.v.mem.tail.length - (i+1),by omega,i+1,_,Q,t,_,rfl,by omega,rfl,XD,XJ⟩
 ·have Xz:i=j.v.mem.tail.length:=by omega
  subst Xz;rw [h0] at c XF XB;refine Mb B (XK.new a) Xx s.new J H a c (by omega) (F.new a) Xy N I _ λS v bw XQ al XZ=>XP S v bw XQ al ?_
  exact XZ.of a (cY _)
theorem JQ (N:dg w0 u aI tb r m j V (0,0)) (XY:eP A w0 u tb T G) (XN:ga T) (XP:k1 w0 u aI tb V aV) (XI:aV.length=j.v.mem.length) {W:List aK} (Xy:fm u q.eH q.dT W) (J:∀ k,aL q.eH k->k≠tb/\k≠aI) (XC:fH q.Seq W 256=0) (XU:∀ x ∈ fo q.Seq W,cj x) (X0:qs W) :
  bb 227 [ptr aI,q.val] u (lq A w0 u aI tb r m j V (p0 j m q.Seq W aV G)):=by
 refine bd Tryz.func227 ?_;rw [ptr,Tb];have X1:=N.aj.lt;have X4:=XY.aj.lt;have XO:=N.b8.dead;have aq:=N.bQ.dead;obtain ⟨_,X',_⟩:=jy XC;rintro b1 w1 XL XD;obtain ⟨z,c⟩:=bl XL XD;have z:av w1 b1 q.cells er:=z;clear XD;have XT:=c.size;refine b0.aT q ⟨bO z rfl,?_⟩;refine aD (MR (N.bB c) (XY.new c) XN (XP.new c) XI (Xy.new c) XC XU) ?_;rintro v Yf ⟨rfl,o⟩;have g:=o.of (B':=u.heap.size) c XT;refine ⟨_,rfl,ev (λZ=>?_) (λX3=>?_)⟩
 ·have e:p0 j m q.Seq W aV G=lf j q.Seq W aV G:=if_pos Z;exact ⟨by rw [e,Z],by rw [e];exact g⟩
 have Q:p0 j m q.Seq W aV G=pv j m q.Seq W (fy j m W (lf j q.Seq W aV G).a7):=if_neg (by rw [X3];simp);obtain ⟨X_,O,XV⟩:=oE X3;have XB:=o.eD;rw [show (lf j q.Seq W aV G).out=(0,0) from X_] at XB;obtain ⟨Yc,XJ,D,R⟩:=o.fY;rw [show (lf j q.Seq W aV G).ask=none from O] at R;rw [show (lf j q.Seq W aV G).dD=false from XV] at D;have d:b1≠tb/\b1≠aI:=by constructor<;>omega
 have H:=o.aA.aj z λe=>e.elim d.1 d.2
 have Xz:=vN (Xy.new c) o.aA λk O e=>e.elim (J k O).1 (J k O).2
 refine b0.aT q ⟨bO H rfl,?_⟩;refine aD (Jn XB XJ ⟨R,D⟩ Xz J X0.wr) ?_;rintro v X5 ⟨a2,pc,rfl,h,t,XR⟩;have s:=Ma (j:=j) (m:=m) (W:=W) (G:=(lf j q.Seq W aV G).a7);generalize X7:(lf j q.Seq W aV G).a7=a at h t Q s;have b:eF A w0 u aI tb u.heap.size r m j V (fy j m W a) X5:=eF.seq g.aA (ao.refl _ _) h (g.aA.size);refine ⟨_,_,_,_,rfl,ev (λZ=>?_) (λw=>?_)⟩
 ·have e:pv j m q.Seq W (fy j m W a)=fy j m W a:=if_pos Z;exact ⟨by rw [Q,e,Z],by rw [Q,e];exact b⟩
 have XH:pv j m q.Seq W (fy j m W a)=if (gD j W (fy j m W a).done (fy j m W a).done.length).length=0 then fy j m W a else qO j m q.Seq (gD j W (fy j m W a).done (fy j m W a).done.length) (bP (fy j m W a).a7 (tF j q.Seq (gD j W (fy j m W a).done (fy j m W a).done.length))):=if_neg (by rw [w];simp);have B:=oE w;have Xx:(fy j m W a).out=(0,0):=B.1;have Xv:(fy j m W a).ask=none:=B.2.1;have F:(fy j m W a).dD=false:=B.2.2;clear B;have Y:(fy j m W a).done.length<=W.length:=s;generalize fy j m W a=P at h b t Q XH Xx Xv F Y w;have C:=h.eD;rw [show P.out=(0,0) from Xx] at C;obtain ⟨Yd,XK,E,U⟩:=h.fY;rw [show P.ask=none from Xv] at U;rw [show P.dD=false from F] at E;have XA:=KZ (j:=j) (ds:=P.done) Y;have XS:=BM j W P.done P.done.length;generalize gD j W P.done P.done.length=l at t XH XA XS;rw [Q,XH];refine d' (λX6=>?_) (λX6=>?_)
 ·rw [if_pos (by omega)];exact ⟨by rw [show P.ok=true from w],b⟩
 rw [if_neg (by omega)];have XF:=h.aA.aj H λe=>e.elim d.1 d.2
 rintro XX XE;have K:ai X5 XX:=by rw [XE];exact cK _
 clear XE;have X:=C.bB K;have XG:=ai.aj K XF;refine ⟨λy=>ai XX y,ao.refl _ _,r.eV,λy XW=>(ai.aj XW X.aj).cell (i:=5) rfl,q.Seq,λy XW=>(ai.aj XW XG).cell (i:=0) rfl,?_⟩;dsimp only;rw [aq,kt (x:=q.Seq) (by omega) (by omega)];refine aD (vZ XX XO) ?_;rintro v Yg ⟨rfl,L⟩;have I:=X.bB L;obtain ⟨Yb,M⟩:=N.bQ.view;refine ⟨_,rfl,L,c2.aT r.View ⟨bO I.aj rfl,?_⟩⟩;refine aD (Cm (M.new I.new) N.b8.mem.1) ?_;rintro v Ya ⟨Ye,fi,rfl,Xw,XM⟩;refine ⟨_,_,_,rfl,?_⟩;have f:=(K.new L).new Xw;have n:=X0.sub XA (by omega);have s:fm Ya a2 l.length l:=⟨t.new f,rfl,by have:=n.wr.eB;omega,λp XQ=>(n.wr.ok p XQ).2.2.2.2⟩;have X9:=g.aA.size;have XZ:=b.aA.size;have X2:=f.size;refine Mc (I.bB Xw) (XK.new f) ⟨U,E⟩ XM s (λk O=>?_) n (seq:=q.Seq) ⟨by omega,by omega⟩ _ λS v bw X8 al XQ=>?_
 ·have:=XR k O;constructor<;>omega
 ·rw [<-X8];exact ⟨al,eF.seq b.aA f XQ (by omega)⟩
end
end
end Go.Proofs.YtmkljjbioomepaaGreat
