import Derived.Test.YtmkljjbioomepaaGreatc32
set_option linter.all false
set_option maxHeartbeats 4000000
set_option maxRecDepth 100000
namespace Go.Proofs.YtmkljjbioomepaaGreat
open Go.Proofs.Tryz Go.br
variable {G:List (List aL)} {aT:List bb} {R:cA} {V:fZ} {j:b2} {l:List aJ} {la pa:al} {lc n pc aH tb:Nat} {m:aZ} {q:bX} {r:dr} {seq:Int} {u w0:ak} {vs:List aP}
section
noncomputable abbrev iO:Func:=f247
def yp (j:b2) (seq:Int) (W:List aJ) (bg:aZ):List aP:=[lI j bg (e4 j.dead) [0],lI j bg (e4 j.dead+8) (fc seq W),lI j bg (e4 j.dead) [fN seq]]
theorem nM {y a:ak} {b:Nat} {x:Int} (c:b=y.heap.size) (hw:a=y.alloc (.cells #[.int .u64 x] 30)):ai y a/\bh a (some ⟨b,0,none⟩) (us [x]):=by obtain ⟨au,d⟩:=bl (zs:=(us [x]).toArray) c hw;exact ⟨d,fk au rfl⟩
theorem Io {z:ak} {o:Int×Int} (VC:df w0 z aH tb r m j V o) {b1 L:Nat} {bg:aZ} (V3:av z b1 q.cells ek) (V4:av z L bg.cells eH) (VX:ec bg.ck) {W:List aJ} (VZ:i0 z q.ei q.dI W) (VG:fr q.Seq W 256=0) (Vy:∀ x ∈ fc q.Seq W,b8 x) (Vz:b8 (fN q.Seq)) (VE:ai u z)
  (VH:bH u z pa n pc vs) (Wd:n<=1000) (O:al) (U Q:Nat) (X Y:Int) (V5:ax) {QX:Exit->ax->aE}
  (S:∀ V_ ap D V5,bH u V_ ap (n+3) D (vs++yp j q.Seq W bg)->ai u V_->QX .normal (lB ⟨aH,0,none⟩ ⟨b1,0,none⟩ (fN q.Seq) ap (n+3) D O U Q X Y V5) V_) :
  Go.br.W prog (sub (bo iO) [1,1,1,0,1,0,0,1,1,0,0,1,1]) (zC ⟨aH,0,none⟩ ⟨b1,0,none⟩ (fN q.Seq) pa n pc ⟨L,0,none⟩ O U Q X Y V5) (bG prog iO R QX) z:=by
 rw [lm];have VD:=VC.cj.dead;have ar:=VC.bN.dead;obtain ⟨_,V1,VV,_⟩:=ji VG;refine ⟨r.ew,VC.aj.cell (i:=5) rfl,?_⟩;rw [ar];refine aC (yy z VD) ?_;rintro v Wl ⟨rfl,rfl⟩;refine ⟨_,rfl,?_⟩;rintro Vs VI;have A:ai Wl Vs:=by rw [VI];exact cD _
 clear VI;have V0:∀ k,aK pa k->k<Wl.heap.size:=λk S=>by obtain ⟨cf,VL,_⟩:=VH.ex;exact VL.lt S
 have Wr:=A.size;have Ws:=VE.size;have p:∀ {y:ak},ai Vs y->av y L bg.cells eH/\av y b1 q.cells ek/\iL r tb m j aH y:=λ{y} J=>⟨ai.aj (A.new J) V4,ai.aj (A.new J) V3,_,_,(VC.bx (A.new J)).aj⟩
 have wr:∀ {y:ak} {K:Ending->aE} {a:al} {l c:Nat} {ws:bb} (at_:Int),ai Vs y->bh y a (us ws)->l=ws.length->l<=c->(∀ x ∈ ws,b8 x)->ws.length<=1000->ws≠[]->(∀ (bj:aG) s,ai y s->cE (λk=>k<y.heap.size) s bj (lI j bg at_ ws)->K (.returned bj.val) s)->Calls prog 250 #[ptr aH,bg.val,.int .i64 at_,.slice a l c] y K:=by
  intro y K a l c ws at_ J VM VV VW hu hw Wq Vv
  refine aC (xG (VC.bx (A.new J)) VX at_ VM VV VW (λe=>?_) hu (by omega)) ?_
  ·rcases VM with VK | ⟨di,Wx,VK,_⟩
   ·have:=congrArg List.length VK;rw [hC,p4] at this;exact fB this
   ·rw [e] at VK;cases VK
  ·rintro v s ⟨bj,rfl,V2,Vx⟩;exact Vv bj s Vx V2
 have F:∀ {y:ak} {K:Ending->aE} {b:Nat} {x:Int},ai Vs y->bh y (some ⟨b,0,none⟩) (us [x])->b8 x->(∀ (bj:aG) s,ai y s->cE (λk=>k<y.heap.size) s bj (lI j bg (e4 j.dead) [x])->K (.returned bj.val) s)->Calls prog 250 #[ptr aH,bg.val,.int .i64 (e4 j.dead),.slice (some ⟨b,0,none⟩) 1 1] y K:=λJ VM hu Vv=>wr _ J VM rfl (cO 1) (λy B=>by simp at B;rw [B];exact hu) (by simp) (by simp) Vv
 have ey:∀ {y:ak} {K:Ending->aE},ai Vs y->(∀ (a:al) (c:Nat) s,ai y s->bh s a (us (fc q.Seq W))->3+9 * W.length<=c->K (.returned (.slice a (3+9 * W.length) c)) s)->Calls prog 210 #[q.val] y K:=by intro y K J Vv;refine aC (yk (VZ.new (A.new J)) VG ⟨V1.1,V1.2.1⟩ V1.2.2.2 VV) ?_;rintro v s ⟨a,c,rfl,Vx,VL,_⟩;exact Vv a c s Vx VL.rd (a2.le VL)
 have lb:∀ {y:ak} {K:Ending->aE},K (.returned (.int .i64 (e4 j.dead+8))) y->Calls prog 209 #[.int .i64 j.dead] y K:=by intro y K Vv;refine aC (Dl y VD) ?_;rintro v s ⟨rfl,rfl⟩;exact Vv
 have P:=ps q.Seq W;have bne:fc q.Seq W≠[]:=λe=>by rw [e] at P;simp at P <;> omega
 have fin:∀ {Z M VP VQ VR VJ:ak} {v1 v2 w:aG},ai Vs Z->ai Z M->cE (λk=>k<Z.heap.size) M v1 (lI j bg (e4 j.dead) [0])->ai M VP->ai VP VQ->cE (λk=>k<VP.heap.size) VQ v2 (lI j bg (e4 j.dead+8) (fc q.Seq W))->ai VQ VR->ai VR VJ->cE (λk=>k<VR.heap.size) VJ w (lI j bg (e4 j.dead) [fN q.Seq])->∀ (a1:Nat->al->Nat->Nat->ax) (b:Nat) (y:ak),b=VJ.heap.size->y=VJ.alloc (.cells #[.int .i64 v1.Kind,.int .i64 v1.Node,.int .i64 v1.bW,.int .i64 v1.N,.int .u64 v1.Old,.int .u64 v1.ai,.slice v1.Words v1.cI v1.cC,.int .u64 v1.Key,.int .i64 v1.ck,.int .i64 v2.Kind,.int .i64 v2.Node,.int .i64 v2.bW,.int .i64 v2.N,.int .u64 v2.Old,.int .u64 v2.ai,.slice v2.Words v2.cI v2.cC,.int .u64 v2.Key,.int .i64 v2.ck,.int .i64 w.Kind,.int .i64 w.Node,.int .i64 w.bW,.int .i64 w.N,.int .u64 w.Old,.int .u64 w.ai,.slice w.Words w.cI w.cC,.int .u64 w.Key,.int .i64 w.ck] cy)->
   (av y L bg.cells eH/\av y b1 q.cells ek/\iL r tb m j aH y)/\∃ (ap:al) (c5 ac:Nat),∃ s,(Builtin.append_ #[gp,gp] gp #[(.slice pa n pc),(.slice (some ⟨b,0,none⟩) 3 3)]).run prog y=.ok (.slice ap c5 ac) s/\(av s L bg.cells eH/\av s b1 q.cells ek/\iL r tb m j aH s)/\QX .normal (lB ⟨aH,0,none⟩ ⟨b1,0,none⟩ (fN q.Seq) ap c5 ac O U Q X Y (a1 b ap c5 ac)) s:=by
  intro Z M VP VQ VR VJ v1 v2 w na fy I nc nd Vt ne We Vu a1 b y h B;obtain ⟨au,J⟩:=bl h B;have au:av y b (v1.cells++v2.cells++w.cells) cy:=au;have s1:=na.size;have s2:=fy.size;have Wy:=nc.size;have Wz:=nd.size;have WA:=ne.size;have Wt:=bH.three fy I (nc.new nd) (Vt.mono λk S=>by omega) (ne.new We) (Vu.mono λk S=>by omega) h au J;have E:ai Vs y:=((((na.new fy).new nc).new nd).new ne).new (We.new J);refine ⟨p E,?_⟩;have an:=VH.new (A.new E);obtain ⟨cf,VF,_⟩:=an.ex;have off:∀ {b:Nat} {cs:ax} {T:TypeId},T≠cy->av y b cs T->¬ aK pa b:=λWp h S=>by obtain ⟨Wn,VU⟩:=fI VF S;exact VU.ne h (λe=>Wp e.symm) rfl
  obtain ⟨Wa,Wb,V',Wf,Wc⟩:=p E;refine bH.tJ an (VE.new (A.new E)) Wt (λk S=>by have:=V0 k S;omega) (by omega) (by omega) λap D s Wo Vw VY=>⟨⟨Vw.aj Wa (off (by decide) Wa),Vw.aj Wb (off (by decide) Wb),V',Wf,Vw.aj Wc (off (by decide) Wc)⟩,S s ap D _ Wo VY⟩
 have rest:∀ {Z M:ak} {v1:aG} {VT:Nat} {a1:aG->aG->Nat->al->Nat->Nat->al->Nat->Nat->ax},ai Vs Z->ai Z M->cE (λk=>k<Z.heap.size) M v1 (lI j bg (e4 j.dead) [0])->bh M (some ⟨VT,0,none⟩) (us [fN q.Seq])->Calls prog 210 #[q.val] M λe Wg=>∃ (b:al) (P fa:Nat),e=.returned (.slice b P fa)/\(λy=>av y L bg.cells eH/\av y b1 q.cells ek/\iL r tb m j aH y) Wg/\Calls prog 250 #[ptr aH,bg.val,.int .i64 (e4 j.dead+8),.slice b P fa] Wg λe Wh=>aG.ex λG=>e=.returned G.val/\(λy=>av y L bg.cells eH/\av y b1 q.cells ek/\iL r tb m j aH y) Wh/\Calls prog 250 #[ptr aH,bg.val,.int .i64 (e4 j.dead),.slice (some ⟨VT,0,none⟩) 1 1] Wh λe V8=>aG.ex λH=>e=.returned H.val/\(λy=>av y L bg.cells eH/\av y b1 q.cells ek/\iL r tb m j aH y) V8/\∀ VS VA,VS=V8.heap.size->VA=V8.alloc (.cells #[.int .i64 v1.Kind,.int .i64 v1.Node,.int .i64 v1.bW,.int .i64 v1.N,.int .u64 v1.Old,.int .u64 v1.ai,.slice v1.Words v1.cI v1.cC,.int .u64 v1.Key,.int .i64 v1.ck,.int .i64 G.Kind,.int .i64 G.Node,.int .i64 G.bW,.int .i64 G.N,.int .u64 G.Old,.int .u64 G.ai,.slice G.Words G.cI G.cC,.int .u64 G.Key,.int .i64 G.ck,.int .i64 H.Kind,.int .i64 H.Node,.int .i64 H.bW,.int .i64 H.N,.int .u64 H.Old,.int .u64 H.ai,.slice H.Words H.cI H.cC,.int .u64 H.Key,.int .i64 H.ck] cy)->(λy=>av y L bg.cells eH/\av y b1 q.cells ek/\iL r tb m j aH y) VA/\∃ (ap:al) (c5 ac:Nat),∃ VB,(Builtin.append_ #[gp,gp] gp #[(.slice pa n pc),(.slice (some ⟨VS,0,none⟩) 3 3)]).run prog VA=.ok (.slice ap c5 ac) VB/\(λy=>av y L bg.cells eH/\av y b1 q.cells ek/\iL r tb m j aH y) VB/\QX .normal (lB ⟨aH,0,none⟩ ⟨b1,0,none⟩ (fN q.Seq) ap c5 ac O U Q X Y (a1 G H VS ap c5 ac b P fa)) VB
  :=by
  intro Z M v1 VT a1 na fy I Ww;refine ey (na.new fy) λa c Wj t VN lc=>⟨_,_,_,rfl,p ((na.new fy).new t),?_⟩
  refine wr (e4 j.dead+8) ((na.new fy).new t) VN P.symm lc Vy (by omega) bne λv2 Wk C Vt=>aG.aS v2 ⟨rfl,p (((na.new fy).new t).new C),?_⟩
  refine F (((na.new fy).new t).new C) (Ww.new (t.new C)) Vz λw V9 Vr Vu=>aG.aS w ⟨rfl,p ((((na.new fy).new t).new C).new Vr),?_⟩
  exact fin na fy I t C Vt (ao.refl _ _) Vr Vu _
 refine ⟨λy=>av y L bg.cells eH/\av y b1 q.cells ek/\iL r tb m j aH y,p (ao.refl _ _),aZ.aS bg ⟨λy B=>bK B.1 rfl,aZ.aS bg ⟨λy B=>bK B.1 rfl,r.ew,λy B=>by obtain ⟨_,_,V',Wf,B⟩:=B;exact B.cell (i:=5) rfl,bX.aS q ⟨λy B=>bK B.2.1 rfl,aZ.aS bg ⟨λy B=>bK B.1 rfl,?_⟩⟩⟩⟩⟩;rw [ar];refine ⟨λWm WB h hw=>?_,λdn V9 h hw=>?_⟩
 ·obtain ⟨d,r1⟩:=nM h hw;clear h hw;refine ⟨p d,F d r1 hd λv1 Wi f I=>aG.aS v1 ⟨rfl,p (d.new f),?_,?_⟩,λb Wi h hw=>?_⟩
  ·refine lb ⟨_,rfl,p (d.new f),?_,?_⟩
   ·refine ey (d.new f) λa c VO g VN lc=>⟨_,_,_,rfl,p ((d.new f).new g),?_,?_⟩
    ·refine wr (e4 j.dead+8) ((d.new f).new g) VN P.symm lc Vy (by omega) bne λv2 Wj t Vt=>aG.aS v2 ⟨rfl,p (((d.new f).new g).new t),λb Wk h hw=>?_⟩
     obtain ⟨C,Wv⟩:=nM h hw;clear h hw;refine ⟨p ((((d.new f).new g).new t).new C),F ((((d.new f).new g).new t).new C) Wv Vz λw V9 Vr Vu=>aG.aS w ⟨rfl,p (((((d.new f).new g).new t).new C).new Vr),?_⟩⟩;exact fin d f I g t Vt C Vr Vu (λb ap c5 ac=>_)
    ·intro b Wj h hw;obtain ⟨t,Wu⟩:=nM h hw;clear h hw;refine ⟨p (((d.new f).new g).new t),wr (e4 j.dead+8) (((d.new f).new g).new t) (VN.new t) P.symm lc Vy (by omega) bne λv2 Wk C Vt=>aG.aS v2 ⟨rfl,p ((((d.new f).new g).new t).new C),?_⟩⟩;refine F ((((d.new f).new g).new t).new C) (Wu.new C) Vz λw V9 Vr Vu=>aG.aS w ⟨rfl,p (((((d.new f).new g).new t).new C).new Vr),?_⟩
     exact fin d f I (g.new t) C Vt (ao.refl _ _) Vr Vu (λb ap c5 ac=>_)
   ·intro b VO h hw;obtain ⟨g,V7⟩:=nM h hw;clear h hw;exact ⟨p ((d.new f).new g),rest d (f.new g) (I.az (ao.b3 g) λ_ _ e=>e) V7⟩
  ·intro b VO h hw;obtain ⟨g,V7⟩:=nM h hw;clear h hw;exact ⟨p ((d.new f).new g),lb ⟨_,rfl,p ((d.new f).new g),rest d (f.new g) (I.az (ao.b3 g) λ_ _ e=>e) V7⟩⟩
  ·obtain ⟨f,V6⟩:=nM h hw;clear h hw;refine ⟨p (d.new f),F (d.new f) (r1.new f) hd λv1 VO g I=>aG.aS v1 ⟨rfl,p ((d.new f).new g),lb ⟨_,rfl,p ((d.new f).new g),?_⟩⟩⟩;exact rest (d.new f) g I (V6.new g)
 ·obtain ⟨d,r1⟩:=nM h hw;clear h hw;refine ⟨p d,λb Wi h hw=>?_⟩;obtain ⟨f,V6⟩:=nM h hw;clear h hw;refine ⟨p (d.new f),F (d.new f) V6 hd λv1 VO g I=>aG.aS v1 ⟨rfl,p ((d.new f).new g),lb ⟨_,rfl,p ((d.new f).new g),?_⟩⟩⟩;exact rest (d.new f) g I ((r1.new f).new g)
end
section
def q9 (j:b2) (seq:Int) (W:List aJ) (L:bb):Bool:=f' L j.lines && vM (seq,W) (fe L j.lines)
def xu (j:b2) (seq:Int) (W:List aJ) (aT:List bb) (i:Nat):List aP:=if q9 j seq W (aT.getD i [])=true then [] else yp j seq W (j.v.mem.getD i jC)
def ny (j:b2) (seq:Int) (W:List aJ) (aT:List bb) (n:Nat):List aP:=((List.range n).map (xu j seq W aT)).flatten
def kZ (j:b2) (seq:Int) (W:List aJ) (aT:List bb) (G:List (List aL)):cn:=bL G (ny j seq W aT j.v.mem.length)
theorem BB (j:b2) (seq:Int) (W:List aJ) (aT:List bb) (n:Nat):ny j seq W aT (n+1)=ny j seq W aT n++xu j seq W aT n:=by unfold ny;rw [j9];simp
theorem vj {w w':ak} {a:al} {W:List aJ} (h:i0 w a n W) {M:a5} (c:ao M w w') (b:∀ k,aK a k->¬ M k):i0 w' a n W:=⟨h.rd.az c (g9 h.rd b),h.len,h.eA,h.u64⟩
abbrev Gv (R:cA) (N:ax->aE) (Q:Exit->ax->aE):Exit->ax->aE:=aO 1 (aV (λenv w=>Go.br.W prog (sub (bo iO) [1,1,1,0,1,0,0,1,1,1]) env (bG prog iO R (aV N Q)) w) (bG prog iO R (aV N Q)))
abbrev Gu (R:cA) (N:ax->aE) (Q:Exit->ax->aE):Exit->ax->aE:=bG prog iO R (aV (λenv w=>Go.br.W prog (sub (bo iO) [1,1,1,0,1,0,0,1,1,0,0,1,1]) env (Gv R N Q) w) (Gv R N Q))
theorem KR {A:a5} {T:gg} (VA:df w0 u aH tb r m j V (0,0)) (Wa:eO A w0 u tb T G) (VW:fT T) (Wo:kM w0 u aH tb V aT) (Wi:aT.length=j.v.mem.length) {W:List aJ} (VG:i0 u q.ei q.dI W) (VI:fr q.Seq W 256=0) (V3:∀ x ∈ fc q.Seq W,b8 x) :
  a_ 247 [ptr aH,q.val] u (k5 A w0 u aH tb r m j V (kZ j q.Seq W aT G)):=by
 refine bc Tryz.func247 ?_;rw [ptr,Q9];generalize VT:k5 A w0 u aH tb r m j V (kZ j q.Seq W aT G)=hi;obtain ⟨⟨V7,V2,V1,Wt,VD⟩,Wc⟩:=Wo;have Wd:=VA.aj.lt;have Wg:=Wa.aj.lt;have Wm:=VA.cj.mem;have S:=VA.bN.lines;obtain ⟨_,VJ,_⟩:=ji VI;obtain ⟨Wz,K⟩:=VA.bN.view;have hlen:=K.len;rintro b1 w1 VU VL;obtain ⟨O,B⟩:=bl VU VL;have O:av w1 b1 q.cells ek:=O;clear VL;have V0:=B.size;have P:=VA.bx B;refine ⟨_,O.cell (i:=0) rfl,?_⟩;refine aC (y2 w1 ⟨VJ.1,VJ.2.1⟩) ?_;rintro v VB ⟨rfl,rfl⟩;refine ⟨_,_,rfl,_,_,_,P.aj.cell (i:=4) rfl,?_⟩;refine c2 mix (λk env z=>∃ (i n:Nat) (pa:al) (pc:Nat) (D:ax),k=j.v.mem.length - i/\i<=j.v.mem.length/\n<=3 * i/\env=tL ⟨aH,0,none⟩ ⟨b1,0,none⟩ (fN q.Seq) pa n pc r.View.dL r.View.dN r.View.dW r.View.dN i D/\ai VB z/\bH VB z pa n pc (ny j q.Seq W aT i)) j.v.mem.length
  ⟨0,0,none,0,_,by omega,by omega,by omega,rfl,ao.refl _ _,bH.nil _ _⟩ ?_
 rintro k env z ⟨i,n,pa,pc,D,rfl,WA,Wq,rfl,l,U⟩;have Vw:=P.bx l;have VE:=Vw.new;refine g7 (fn:=iO) (R:=hi) (λ_ _=>rfl) ?_;rw [PG,hlen];refine a' (λVx=>?_) (λWl=>?_)
 ·obtain ⟨bg,hm⟩:∃ bg,j.v.mem[i]?=some bg:=⟨_,bF (by omega)⟩;obtain ⟨s,We⟩:∃ s,V7[i]?=some s:=⟨_,bF (by omega)⟩;obtain ⟨L,V'⟩:∃ L,aT[i]?=some L:=⟨_,bF (by omega)⟩;have VC:=VD i s L We V';have Wp:=VA.cj.ee bg (cg hm);have Wh:aT.getD i []=L:=by rw [dD,V'];rfl
  have em:j.v.mem.getD i jC=bg:=by rw [dD,hm];rfl
  refine eo (cells:=aZ.cells) aZ.len (by omega) (K.rd.new VE) hm rfl rfl λb Wv VV _=>aZ.aS bg ⟨VV,?_⟩
  refine ea (vs:=bg.cells) rfl (aZ.single _) λV9 Ww Wj V5 H=>?_
  obtain ⟨aW,VS⟩:∃ aW:ax->aE,∀ env w,aW env w=(∃ bY,bY<j.v.mem.length - i/\∃ (VO n:Nat) (pa:al) (pc:Nat) (D:ax),bY=j.v.mem.length - VO/\VO<=j.v.mem.length/\n<=3 * VO/\env=tL ⟨aH,0,none⟩ ⟨b1,0,none⟩ (fN q.Seq) pa n pc r.View.dL r.View.dN r.View.dW r.View.dN VO D/\ai VB w/\bH VB w pa n pc (ny j q.Seq W aT VO)):=⟨_,λ_ _=>rfl⟩;have VP:∀ {VQ:ak} {X:al} {n' Y:Nat} (D:ax),n'<=3 * (i+1)->ai VB VQ->bH VB VQ X n' Y (ny j q.Seq W aT (i+1))->∀ {N:ax->aE} {i':Exit->ax->aE},(∀ env w,aW env w->N env w)->
    Go.br.W prog (sub (bo iO) [1,1,1,0,1,0,0,1,1,1]) (lB ⟨aH,0,none⟩ ⟨b1,0,none⟩ (fN q.Seq) X n' Y r.View.dL j.v.mem.length r.View.dW (j.v.mem.length:Nat) i D) (bG prog iO hi (aV N i')) VQ:=by
   intro VQ X n' Y D Vy VF VK N i' Vs;rw [Qs,bC (x:=(i:Int)+1) (by omega) (by omega)];exact eS (Vs _ _ ((VS _ _).mpr ⟨j.v.mem.length - (i+1),by omega,i+1,n',X,Y,_,rfl,by omega,Vy,by rw [hlen];rfl,VF,VK⟩))
  rw [PH];refine g7 (fn:=iO) (R:=hi) (λ_ _=>rfl) ?_;rw [Qp];rintro VR VM;have C:ai Ww VR:=by rw [VM];exact cD _
  clear VM;have F:=l.new (H.new C);have Q:=P.bx F;refine ⟨λy=>ai VR y,ao.refl _ _,_,_,_,λy VN=>(ai.aj VN Q.aj).cell (i:=13) rfl,?_⟩;refine iR (cells:=mv) (sz:=1) (λ_=>rfl) (by decide) (V2.new (B.new F)) We rfl V1 λb' Wv VX=>⟨s.a,s.n,s.c,λy VN=>by simpa using VX y VN 0 _ rfl,r.fF,λy VN=>(ai.aj VN Q.aj).cell (i:=2) rfl,?_⟩
  rw [S];have J:ny j q.Seq W aT (i+1)=ny j q.Seq W aT i++(if q9 j q.Seq W L=true then [] else yp j q.Seq W bg):=by rw [BB];unfold xu;rw [Wh,em]
  have f4:∀ {y:ak} (t:Bool),t=q9 j q.Seq W L->ai VR y->∀ (D:ax) {N:ax->aE} {i':Exit->ax->aE},(∀ env w,aW env w->N env w)->(∀ env w,i' .ret env w=dB prog iO hi .ret env w)->
    Go.br.W prog (sub (bo iO) [1,1,1,0,1,0,0,1,1,0,0,1,0,1,1]) (wh ⟨aH,0,none⟩ ⟨b1,0,none⟩ (fN q.Seq) pa n pc ⟨V9,0,none⟩ r.View.dL j.v.mem.length r.View.dW (j.v.mem.length:Nat) i t D) (Gu hi N i') y:=by
   intro y t Wf g D N i' Vs Vt;rw [li];have Wb:=F.new g;refine fS (λVu=>?_) (λVu=>?_)
   ·refine pU (pz (eS (VP _ (by omega) (l.new ((H.new C).new g)) ?_ Vs)));rw [J,if_pos (by rw [<-Wf,Vu]),iW];exact U.new ((H.new C).new g)
   ·refine eS (g7 (fn:=iO) (R:=hi) (λ_ _=>rfl) ?_);have d:=(H.new C).new g;refine Io (Vw.bx d) (ai.aj (l.new d) O) (ai.aj (C.new g) V5) (by unfold ec;omega) ((VG.new B).new (l.new d)) VI V3 (yx _) (l.new d) (U.new d) (by omega) _ _ _ _ _ _ λVQ ap V_ Wu V4 Vy=>?_
    refine py (eS (VP _ (by omega) Vy ?_ Vs));rw [J,if_neg (by rw [<-Wf,Vu];simp)];exact V4
  have f3:∀ {y:ak} {Vr:Nat} {pb:al} {aY:Nat},av y Vr (bX.cells ⟨(fe L j.lines).1,pb,(fe L j.lines).2.length,aY⟩) ek->ai VR y->i0 y pb (fe L j.lines).2.length (fe L j.lines).2->∀ (D:ax) {N:ax->aE} {i':Exit->ax->aE},(∀ env w,aW env w->N env w)->(∀ env w,i' .ret env w=dB prog iO hi .ret env w)->
    Go.br.W prog (sub (bo iO) [1,1,1,0,1,0,0,1,1,0,0,1,0,1]) (wg ⟨aH,0,none⟩ ⟨b1,0,none⟩ (fN q.Seq) pa n pc ⟨V9,0,none⟩ ⟨Vr,0,none⟩ (f' L j.lines) r.View.dL j.v.mem.length r.View.dW (j.v.mem.length:Nat) i D) (Gu hi N i') y:=by
   intro y Vr pb aY V6 g VH D N i' Vs Vt;rw [PI];refine g7 (fn:=iO) (R:=hi) (λ_ _=>rfl) ?_;rw [Qr];have d:=l.new ((H.new C).new g);refine fS (λVu=>?_) (λVu=>?_)
   ·refine bX.aS q ⟨bK (ai.aj d O) rfl,bX.aS _ ⟨bK V6 rfl,?_⟩⟩;refine aC (NB ((VG.new B).new d) VH) ?_;rintro v WC ⟨rfl,f⟩;refine ⟨_,rfl,eS (f4 _ ?_ (g.new f) _ Vs Vt)⟩;unfold q9;rw [Vu];rfl
   ·refine eS (f4 _ ?_ g _ Vs Vt);unfold q9;rw [Vu];rfl
  refine ⟨?_,?_⟩
  ·refine aC (Aj j.lines (VC.new Q.new)) ?_;rintro v Wx ⟨pb,aY,rfl,o,I,Z⟩;refine bX.aS ⟨(fe L j.lines).1,pb,(fe L j.lines).2.length,aY⟩ ⟨_,rfl,o,?_⟩;rintro Vr V8 Vv M;obtain ⟨p,f⟩:=bl Vv M;have p:av V8 Vr iF.cells ek:=p;clear M;refine ⟨o.new f,dO (vs:=bX.cells ⟨(fe L j.lines).1,pb,(fe L j.lines).2.length,aY⟩) p rfl (bX.single _) λWy Vz E=>?_⟩;have Wr:=o.size;exact f3 Vz ((o.new f).trans E λk Vx e=>by omega) (I.new (f.trans E λk Vx e=>by omega)) _ (λenv w h=>by rw [VS,hlen] at h;exact h) λ_ _=>rfl
  ·rintro Vr V8 Vv M;obtain ⟨p,f⟩:=bl Vv M;have p:av V8 Vr iF.cells ek:=p;clear M;refine ⟨f,aC (Aj j.lines (VC.new (Q.bx f).new)) ?_⟩;rintro v Wx ⟨pb,aY,rfl,o,I,Z⟩;have Ws:=f.size;have Wk:=p.lt;refine bX.aS ⟨(fe L j.lines).1,pb,(fe L j.lines).2.length,aY⟩ ⟨_,rfl,f.new o,dO (vs:=bX.cells ⟨(fe L j.lines).1,pb,(fe L j.lines).2.length,aY⟩) (ai.aj o p) rfl (bX.single _) λWy Vz E=>?_⟩;exact f3 Vz ((f.new o).trans E λk Vx e=>by omega) (vj I E λk Wn e=>by have:=Z k Wn;omega) _ (λenv w h=>by rw [VS,hlen] at h;exact h) λ_ _=>rfl
 ·have VY:i=j.v.mem.length:=by omega
  subst VY;refine pU (pz (eS ?_));refine g7 (fn:=iO) (R:=hi) (λ_ _=>rfl) ?_;rw [Qq];refine aC (np Vw (Wa.new (B.new l)) VW P.new (by omega) (by omega) U (by rw [<-U.len];omega)) ?_;rintro v WB ⟨dA,dc,raw,rfl,VZ,_⟩;rw [<-VT];exact ⟨_,_,_,_,rfl,rfl,VZ.of (B.new l) V0⟩
end
section
noncomputable abbrev rZ:Func:=f227
def ux (j:b2) (seq:Int) (bg:aZ):aP:=lI j bg (32+j.dead) [seq]
def mQ (j:b2) (seq:Int) (l:List aJ) (bg:aZ):List aP:=l.map (nq j bg)++[ux j seq bg]
def tj (j:b2) (seq:Int) (l:List aJ):List aP:=(j.v.mem.tail.map (mQ j seq l)).flatten
def vN (j:b2) (m:aZ) (seq:Int) (l:List aJ):List aP:=ux j seq m::l.map (nq j m)
def qE (j:b2) (m:aZ) (seq:Int) (l:List aJ) (B:cn):cn:=if B.ok=false then B else bL B.a7 (vN j m seq l)
def pj (j:b2) (m:aZ) (seq:Int) (W:List aJ) (P:cn):cn:=
 if P.ok=false then P else if (gj j W P.done P.done.length).length=0 then P else qE j m seq (gj j W P.done P.done.length) (bL P.a7 (tj j seq (gj j W P.done P.done.length)))
def pP (j:b2) (m:aZ) (seq:Int) (W:List aJ) (aT:List bb) (G:List (List aL)):cn:=
 if (kZ j seq W aT G).ok=false then kZ j seq W aT G else pj j m seq W (fl j m W (kZ j seq W aT G).a7)
theorem JB {W:List aJ} {ds:List aL} (h:n<=W.length):∀ p ∈ gj j W ds n,p ∈ W:=by
 intro p c;unfold gj at c;obtain ⟨l,d,a⟩:=oO.1 c;obtain ⟨i,b,rfl⟩:=cW.1 d;have b:=fE.1 b;unfold pX at a;split at a
 ·simp at a;subst a;rw [bF (show i<W.length by omega)];exact kb _
 ·simp at a
theorem NI (G:List (List aL)) (vs:List aP):(bL G vs).done.length<=vs.length:=by
 unfold bL cb;split
 ·simp
 split
 ·simp
 ·exact qM
theorem KS {W:List aJ}:(fl j m W G).done.length<=W.length:=by have:=NI G (W.map (p7 j m));rwa [fC] at this
structure qi (l:List aJ):Prop where
 wr:rO l
 lF:∀ p ∈ l,∀ x ∈ hz p,b8 x
theorem qi.sub {W l:List aJ} (h:qi W) (hm:∀ p ∈ l,p ∈ W) (b:l.length<=W.length):qi l:=⟨⟨by have:=h.wr.eA;omega,λp a=>h.wr.ok p (hm p a)⟩,λp a=>h.lF p (hm p a)⟩
section
variable {A:a5} {w0 u:ak} {aH tb:Nat} {r:dr} {m:aZ} {j:b2} {V:fZ} {T:gg} {G:List (List aL)}
theorem KT (VY:df w0 u aH tb r m j V (0,0)) (V8:eO A w0 u tb T G) (VI:fT T) {w1:ak} (VS:ai w0 w1) (Vs:tb<w1.heap.size) (Y:aH<w1.heap.size) (VD:ai w1 u) (VR:bH w1 u pa n pc vs) (VZ:vs.length<=1000) (VL:i0 u la l.length l) (VJ:∀ k,aK la k->k≠tb/\k≠aH) (O:qi l) (VO:b8 seq) (Wg:ax)
  (VX:∀ S v bq,S=qE j m seq l (bL G vs)->v=.bool S.ok->eG A w0 u aH tb w1.heap.size r m j V S bq->R v bq) :
  Go.br.W prog (sub (bo rZ) [1,1,1,1,1,1,1,1]) (zD ⟨aH,0,none⟩ la l.length lc (32+j.dead) seq pa n pc Wg) (dB prog rZ R) u:=by
 rw [Qw];have N:=VY.ee;refine aC (np VY V8 VI VS Vs Y VR (by omega)) ?_;rintro v bE ⟨dA,dc,raw,rfl,w,_⟩;have w:eG A w0 u aH tb w1.heap.size r m j V (bL G vs) bE:=w;refine ⟨_,_,_,_,rfl,er (λVz=>?_) (λVA=>?_)⟩
 ·have Vz:(bL G vs).ok=false:=Vz;exact VX (bL G vs) _ _ (if_pos Vz).symm (by rw [Vz]) w
 have VA:(bL G vs).ok=true:=VA;obtain ⟨Q,D,VU⟩:=oj VA;have V7:qE j m seq l (bL G vs)=bL (bL G vs).a7 (vN j m seq l):=if_neg (by rw [VA];simp);have Vr:=w.eE;rw [Q] at Vr;obtain ⟨Wn,VE,C,L⟩:=w.fO;rw [D] at L;rw [VU] at C;have X:i0 bE la l.length l:=vj VL w.az λk D e=>by have:=VJ k D;exact e.elim this.1 this.2
 rintro z au;have i:ai bE z:=by rw [au];exact cD _
 clear au;have f:=Vr.bx i;have J:=VE.new i;have VN:=X.new i;have Wf:=i.size;have V_:=w.az.size;have Vt:=J.aj.lt;have Z:=f.aj.lt;have We:=VD.size;have q:∀ {y:ak},ai z y->iL r tb m j aH y:=λWb=>⟨_,_,(f.bx Wb).aj⟩
 refine ⟨iL r tb m j aH,q (ao.refl _ _),aZ.aS m ⟨λy E=>by obtain ⟨V4,Wi,E⟩:=E;exact bK E rfl,aZ.aS m ⟨λy E=>by obtain ⟨V4,Wi,E⟩:=E;exact bK E rfl,?_⟩⟩⟩;rintro b1 Wl VF Vx;obtain ⟨VB,r1⟩:=nM VF Vx;clear Vx;refine ⟨q VB,?_⟩;refine aC (xG (f.bx VB) N (32+j.dead) r1 rfl (cO 1) (λe=>by cases e) (λx V2=>by simp at V2;rw [V2];exact VO) (show 1<=1000000 by decide)) ?_;rintro v Wm ⟨bj,rfl,h,Wh⟩;have d:=VB.new Wh;have Wd:=VB.size;have h:cE (λk=>k<Wl.heap.size) Wm bj (ux j seq m):=h;have last:∀ {y:ak} {ap:al} {ac nn:Nat},ai z y->nn=1+l.length->bH z y ap nn ac (vN j m seq l)->Calls prog 221 #[ptr aH,.slice ap nn ac] y λe V3=>∃ (s:al) (Wj sc:Nat) (b:Bool),e=.returned (.tuple #[.slice s Wj sc,.bool b])/\iL r tb m j aH V3/\R (.bool b) V3:=by intro y ap ac nn g Wc Vv;have Wa:=O.wr.eA;refine aC (np (f.bx g) (J.new g) ⟨L,C⟩ f.new Vt Z Vv (by rw [<-Vv.len];omega)) ?_;rintro v Wo ⟨dA,dc,raw,rfl,U,_⟩;refine ⟨_,_,_,_,rfl,⟨_,_,U.eE.aj⟩,VX _ _ _ V7.symm rfl ?_⟩;exact eG.seq w.az (i.new g) U (by omega)
 have jm:∀ {y:ak} {K:Ending->aE},ai z y->(∀ (a:al) (c:Nat) Vy,ai y Vy->bH y Vy a l.length c (l.map (nq j m))->K (.returned (.slice a l.length c)) Vy)->Calls prog 249 #[ptr aH,m.val,.slice la l.length lc] y K:=by intro y K g V6;refine aC (BA (f.bx g) N (VN.new g) O.wr O.lF) ?_;rintro v Vy ⟨a,c,rfl,VK,h⟩;exact V6 a c Vy VK h
 refine aG.aS bj ⟨rfl,q d,?_,?_⟩
 ·rintro aA Wp VG VT;obtain ⟨B,F⟩:=bH.box d (h.mono λk D=>by omega) VG VT;have p:=d.new F;refine ⟨q p,jm p λa c Wq H VP=>⟨_,_,_,rfl,q (p.new H),?_⟩⟩;refine bH.tJ (B.new H) (p.new H) VP (λk D=>by obtain ⟨cf,Q,_⟩:=B.ex;exact Q.lt D) p.size (by have:=O.wr.eA;omega) λap I Wr V5 V9 P=>⟨q P,last P rfl V5⟩
 ·refine jm d λa c Ws F VQ=>⟨_,_,_,rfl,q (d.new F),?_⟩
  rintro VW VV VH Vw;obtain ⟨Vu,H⟩:=bH.box (d.new F) ((h.az (ao.b3 F) λ_ _ e=>e).mono λk D=>by omega) VH Vw;have V1:=d.size;have VM:ke (λk=>k<z.heap.size\/aK (some ⟨VW,0,none⟩) k) VV a l.length (l.map (nq j m)):=(VQ.hJ (M:=λk=>k<z.heap.size) λk _ e=>by omega).wide H λk V' e=>by
   rcases e with e | ⟨o,Q⟩
   ·exact e
   ·exfalso;have:VW=k/\0=o:=jR Q;omega
  refine ⟨q ((d.new F).new H),bH.EI Vu ((d.new F).new H) VM (by have:=O.wr.eA;omega) λap I Wk VC V0 t=>⟨q t,last t rfl VC⟩⟩
theorem KU (s:df w0 u aH tb r m j V (0,0)) (VG:eO A w0 u tb T G) (Vt:fT T) {U:al} {fa:Nat} (Vr:bh u U (f_ j.v.mem.tail).flatten) (F:i0 u la l.length l) (Vu:∀ k,aK la k->k≠tb/\k≠aH) (N:qi l) (I:b8 seq) (P:ax)
  (VL:∀ S v bq,S=qE j m seq l (bL G (tj j seq l))->v=.bool S.ok->eG A w0 u aH tb u.heap.size r m j V S bq->R v bq) :
  cu prog (.loop (sub (bo rZ) [1,1,1,1,1,1,1,0,1,0,0])) (tM ⟨aH,0,none⟩ la l.length lc (32+j.dead) seq none 0 0 U (j.v.mem.length - 1) fa ((j.v.mem.length - 1:Nat):Int) 0 P)
   (aO 0 (aV (λenv w=>Go.br.W prog (sub (bo rZ) [1,1,1,1,1,1,1,1]) env (dB prog rZ R) w) (dB prog rZ R))) u:=by
 have VP:=s.cj.mem;have VT:=N.wr.eA;have H:=s.aj.lt;have J:=VG.aj.lt;have VY:j.v.mem.tail.length=j.v.mem.length - 1:=ri;have f:∀ i,((j.v.mem.tail.take i).map (mQ j seq l)).flatten.length<=60+5:=by
  intro i;have VJ:=yz (b:=l.length+1) ((j.v.mem.tail.take i).map (mQ j seq l)) λx O=>by obtain ⟨m,_,rfl⟩:=cW.1 O;unfold mQ;simp
  rw [fC,iG] at VJ;have V5:min i j.v.mem.tail.length * (l.length+1)<=5 * 13:=p1 (by omega) (by omega);omega
 refine c2 mix (λq env z=>∃ (i n:Nat) (pa:al) (pc:Nat) (P:ax),q=j.v.mem.tail.length - i/\i<=j.v.mem.tail.length/\env=tM ⟨aH,0,none⟩ la l.length lc (32+j.dead) seq pa n pc U (j.v.mem.length - 1) fa ((j.v.mem.length - 1:Nat):Int) i P/\ai u z/\bH u z pa n pc (((j.v.mem.tail.take i).map (mQ j seq l)).flatten)) j.v.mem.tail.length
  ⟨0,0,none,0,_,rfl,by omega,rfl,ao.refl _ _,bH.nil _ _⟩ ?_
 rintro q env z ⟨i,n,pa,pc,P,rfl,V6,rfl,a,c⟩;rw [PJ];have B:=s.bx a;have VX:=a.size;have VB:=c.len;have Vx:=f i;refine a' (λVS=>?_) (λVO=>?_)
 ·obtain ⟨bg,hm⟩:∃ bg,j.v.mem.tail[i]?=some bg:=⟨_,bF (by omega)⟩;have VU:=s.cj.ee bg (s5 (cg hm));have y:ec bg.ck:=by unfold ec;omega
  have X:((j.v.mem.tail.take (i+1)).map (mQ j seq l)).flatten=((j.v.mem.tail.take i).map (mQ j seq l)).flatten++mQ j seq l bg:=by rw [e7,hm];simp
  refine eo (cells:=aZ.cells) aZ.len (by omega) (Vr.new a) hm rfl (by omega) λb o Vs _=>aZ.aS bg ⟨Vs,?_⟩
  refine ea (vs:=bg.cells) rfl (aZ.single _) λVH V0 VN L d=>aZ.aS bg ⟨bK L rfl,?_⟩
  have VW:=d.size;rw [bC (x:=(i:Int)+1) (by omega) (by omega)];refine aC (BA (B.bx d) y ((F.new a).new d) N.wr N.lF) ?_;rintro v V7 ⟨gH,gc,rfl,g,VC⟩;refine ⟨_,_,_,rfl,?_⟩;have E:∀ k,aK pa k->k<V0.heap.size:=λk VQ=>by obtain ⟨cf,VA,_⟩:=c.ex;have:=VA.lt VQ;omega
  refine bH.tJ ((c.new d).new g) ((a.new d).new g) VC E (by omega) (by omega) λap VE V1 VK Vw D=>?_
  have C:=s.bx D;have M:av V1 VH bg.cells eH:=Vw.aj (ai.aj g L) λe=>by obtain ⟨cf,VA,_⟩:=c.ex;have:=VA.lt e;omega
  refine aZ.aS bg ⟨bK M rfl,?_⟩;rintro dn V2 Z K;obtain ⟨h,VZ⟩:=nM Z K;clear K;refine aC (xG (C.bx h) y (32+j.dead) VZ rfl (cO 1) (λe=>by cases e) (λx O=>by simp at O;rw [O];exact I) (show 1<=1000000 by decide)) ?_;rintro v V3 ⟨bj,rfl,p,Vy⟩;have p:cE (λk=>k<V2.heap.size) V3 bj (ux j seq bg):=p;refine aG.aS bj ⟨rfl,?_⟩;rintro V4 V8 Y VD;refine bH.lN (VK.new h) (D.new h) Vy p (by omega) Y VD λQ t V9 VF VR Vz=>?_
  have VI:((j.v.mem.tail.take i).map (mQ j seq l)).flatten++l.map (nq j bg)++[ux j seq bg]=((j.v.mem.tail.take (i+1)).map (mQ j seq l)).flatten:=by rw [X];unfold mQ;rw [ln]
  rw [VI] at VF;exact ⟨j.v.mem.tail.length - (i+1),by omega,i+1,_,Q,t,_,rfl,by omega,rfl,Vz,VF⟩
 ·have Vv:i=j.v.mem.tail.length:=by omega
  subst Vv;rw [hv] at c VB Vx;refine KT B (VG.new a) Vt s.new J H a c (by omega) (F.new a) Vu N I _ λS v bq VM an VV=>VL S v bq VM an ?_
  exact VV.of a (cO _)
theorem Ip (N:df w0 u aH tb r m j V (0,0)) (VU:eO A w0 u tb T G) (VJ:fT T) (VL:kM w0 u aH tb V aT) (VE:aT.length=j.v.mem.length) {W:List aJ} (Vu:i0 u q.ei q.dI W) (J:∀ k,aK q.ei k->k≠tb/\k≠aH) (Vy:fr q.Seq W 256=0) (VQ:∀ x ∈ fc q.Seq W,b8 x) (VW:qi W) :
  a_ 227 [ptr aH,q.val] u (k5 A w0 u aH tb r m j V (pP j m q.Seq W aT G)):=by
 refine bc Tryz.func227 ?_;rw [ptr,Q'];have VX:=N.aj.lt;have V0:=VU.aj.lt;have VK:=N.cj.dead;have ar:=N.bN.dead;obtain ⟨_,V7,_⟩:=ji Vy;rintro b1 w1 VH Vz;obtain ⟨z,c⟩:=bl VH Vz;have z:av w1 b1 q.cells ek:=z;clear Vz;have VP:=c.size;refine bX.aS q ⟨bK z rfl,?_⟩;refine aC (KR (N.bx c) (VU.new c) VJ (VL.new c) VE (Vu.new c) Vy VQ) ?_;rintro v Wb ⟨rfl,o⟩;have g:=o.of (B':=u.heap.size) c VP;refine ⟨_,rfl,er (λZ=>?_) (λVZ=>?_)⟩
 ·have e:pP j m q.Seq W aT G=kZ j q.Seq W aT G:=if_pos Z;exact ⟨by rw [e,Z],by rw [e];exact g⟩
 have Q:pP j m q.Seq W aT G=pj j m q.Seq W (fl j m W (kZ j q.Seq W aT G).a7):=if_neg (by rw [VZ];simp);obtain ⟨V6,O,VR⟩:=oj VZ;have Vx:=o.eE;rw [show (kZ j q.Seq W aT G).out=(0,0) from V6] at Vx;obtain ⟨V_,VF,D,R⟩:=o.fO;rw [show (kZ j q.Seq W aT G).ask=none from O] at R;rw [show (kZ j q.Seq W aT G).dC=false from VR] at D;have d:b1≠tb/\b1≠aH:=by constructor<;>omega
 have H:=o.az.aj z λe=>e.elim d.1 d.2
 have Vv:=vj (Vu.new c) o.az λk O e=>e.elim (J k O).1 (J k O).2
 refine bX.aS q ⟨bK H rfl,?_⟩;refine aC (HX Vx VF ⟨R,D⟩ Vv J VW.wr) ?_;rintro v V1 ⟨pa,pc,rfl,h,t,VN⟩;have s:=KS (j:=j) (m:=m) (W:=W) (G:=(kZ j q.Seq W aT G).a7);generalize V3:(kZ j q.Seq W aT G).a7=a at h t Q s;have b:eG A w0 u aH tb u.heap.size r m j V (fl j m W a) V1:=eG.seq g.az (ao.refl _ _) h (g.az.size);refine ⟨_,_,_,_,rfl,er (λZ=>?_) (λw=>?_)⟩
 ·have e:pj j m q.Seq W (fl j m W a)=fl j m W a:=if_pos Z;exact ⟨by rw [Q,e,Z],by rw [Q,e];exact b⟩
 have VD:pj j m q.Seq W (fl j m W a)=if (gj j W (fl j m W a).done (fl j m W a).done.length).length=0 then fl j m W a else qE j m q.Seq (gj j W (fl j m W a).done (fl j m W a).done.length) (bL (fl j m W a).a7 (tj j q.Seq (gj j W (fl j m W a).done (fl j m W a).done.length))):=if_neg (by rw [w];simp);have B:=oj w;have Vt:(fl j m W a).out=(0,0):=B.1;have Vr:(fl j m W a).ask=none:=B.2.1;have F:(fl j m W a).dC=false:=B.2.2;clear B;have Y:(fl j m W a).done.length<=W.length:=s;generalize fl j m W a=P at h b t Q VD Vt Vr F Y w;have C:=h.eE;rw [show P.out=(0,0) from Vt] at C;obtain ⟨V',VG,E,U⟩:=h.fO;rw [show P.ask=none from Vr] at U;rw [show P.dC=false from F] at E;have Vw:=JB (j:=j) (ds:=P.done) Y;have VO:=AL j W P.done P.done.length;generalize gj j W P.done P.done.length=l at t VD Vw VO;rw [Q,VD];refine dJ (λV2=>?_) (λV2=>?_)
 ·rw [if_pos (by omega)];exact ⟨by rw [show P.ok=true from w],b⟩
 rw [if_neg (by omega)];have VB:=h.az.aj H λe=>e.elim d.1 d.2
 rintro VT VA;have K:ai V1 VT:=by rw [VA];exact cD _
 clear VA;have X:=C.bx K;have VC:=ai.aj K VB;refine ⟨λy=>ai VT y,ao.refl _ _,r.ew,λy VS=>(ai.aj VS X.aj).cell (i:=5) rfl,q.Seq,λy VS=>(ai.aj VS VC).cell (i:=0) rfl,?_⟩;dsimp only;rw [ar,j8 (x:=q.Seq) (by omega) (by omega)];refine aC (vf VT VK) ?_;rintro v Wc ⟨rfl,L⟩;have I:=X.bx L;obtain ⟨V9,M⟩:=N.bN.view;refine ⟨_,rfl,L,cX.aS r.View ⟨bK I.aj rfl,?_⟩⟩;refine aC (BU (M.new I.new) N.cj.mem.1) ?_;rintro v V8 ⟨Wa,fa,rfl,Vs,VI⟩;refine ⟨_,_,_,rfl,?_⟩;have f:=(K.new L).new Vs;have n:=VW.sub Vw (by omega);have s:i0 V8 pa l.length l:=⟨t.new f,rfl,by have:=n.wr.eA;omega,λp VM=>(n.wr.ok p VM).2.2.2.2⟩;have V5:=g.az.size;have VV:=b.az.size;have VY:=f.size;refine KU (I.bx Vs) (VG.new f) ⟨U,E⟩ VI s (λk O=>?_) n (seq:=q.Seq) ⟨by omega,by omega⟩ _ λS v bq V4 an VM=>?_
 ·have:=VN k O;constructor<;>omega
 ·rw [<-V4];exact ⟨an,eG.seq b.az f VM (by omega)⟩
end
end
end Go.Proofs.YtmkljjbioomepaaGreat
