import Derived.Test.YtmkljjbioomepaaGreate32
set_option linter.all false
set_option maxHeartbeats 4000000
set_option maxRecDepth 100000
namespace Go.Proofs.YtmkljjbioomepaaGreat
open Go.Proofs.Tryz Go.bn
variable {Ls:List a4} {R:cp} {la aX:an} {lc n pc aI tb:Nat} {seq:Int} {u w0:al}
section
noncomputable abbrev iq:Func:=f247
def ud (j:bz) (seq:Int) (W:List aR) (bb:aO):List aG:=[lh j bb (eQ j.dead) [0],lh j bb (eQ j.dead+8) (eD seq W),lh j bb (eQ j.dead) [eg seq]]
theorem m9 {y a:al} {b:Nat} {x:Int} (c:b=y.heap.size) (hw:a=y.alloc (.cells #[.int .u64 x] 30)):ai y a/\bg a (some ⟨b,0,none⟩) (us [x]):=by obtain ⟨au,d⟩:=bk (zs:=(us [x]).toArray) c hw;exact ⟨d,e9 au rfl⟩
theorem H3 {z:al} {r:cN} {m:aO} {j:bz} {V:ej} {o:Int×Int} (Uu:c6 w0 z aI tb r m j V o) {b1 L:Nat} {q:bN} {bb:aO} (UW:av z b1 q.cells dW) (UX:av z L bb.cells ed) (UQ:dO bb.ch) {W:List aR} (US:eY z q.ef q.dF W) (Uy:ff q.Seq W 256=0) (Up:∀ x ∈ eD q.Seq W,b3 x) (Uq:b3 (eg q.Seq)) (Uw:ai u z)
  {vs:List aG} (Uz:bD u z aX n pc vs) (U8:n<=1000) (O:an) (U Q:Nat) (X Y:Int) (UY:aw) {QX:Exit->aw->aE}
  (S:∀ U3 ap D UY,bD u U3 ap (n+3) D (vs++ud j q.Seq W bb)->ai u U3->QX .normal (k8 ⟨aI,0,none⟩ ⟨b1,0,none⟩ (eg q.Seq) ap (n+3) D O U Q X Y UY) U3) :
  Go.bn.W prog (sub (bh iq) [1,1,1,0,1,0,0,1,1,0,0,1,1]) (yC ⟨aI,0,none⟩ ⟨b1,0,none⟩ (eg q.Seq) aX n pc ⟨L,0,none⟩ O U Q X Y UY) (bC prog iq R QX) z:=by
 rw [PE];have Uv:=Uu.ca.dead;have aA:=Uu.bs.dead;obtain ⟨_,UU,UO,_⟩:=jD Uy;refine ⟨r.ez,Uu.ak.cell (i:=5) rfl,?_⟩;rw [aA];refine aD (xC z Uv) ?_;rintro v Ve ⟨rfl,rfl⟩;refine ⟨_,rfl,?_⟩;rintro Uj UA;have A:ai Ve Uj:=by rw [UA];exact cL _
 clear UA;have UT:∀ k,aL aX k->k<Ve.heap.size:=λk S=>by obtain ⟨UB,UE,_⟩:=Uz.ex;exact UE.lt S
 have Vk:=A.size;have Vl:=Uw.size;have p:∀ {y:al},ai Uj y->av y L bb.cells ed/\av y b1 q.cells dW/\ih r tb m j aI y:=λ{y} J=>⟨ai.ak (A.new J) UX,ai.ak (A.new J) UW,_,_,(Uu.bw (A.new J)).ak⟩
 have wr:∀ {y:al} {K:Ending->aE} {a:an} {l c:Nat} {ws:a4} (at_:Int),ai Uj y->bg y a (us ws)->l=ws.length->l<=c->(∀ x ∈ ws,b3 x)->ws.length<=1000->ws≠[]->(∀ (Ur:aF) s,ai y s->cA (λk=>k<y.heap.size) s Ur (lh j bb at_ ws)->K (.returned Ur.val) s)->Calls prog 250 #[ptr aI,bb.val,.int .i64 at_,.slice a l c] y K:=by
  intro y K a l c ws at_ J UF UO UP hu hw Vj Um
  refine aD (we (Uu.bw (A.new J)) UQ at_ UF UO UP (λe=>?_) hu (by omega)) ?_
  ·rcases UF with UD | ⟨c9,Vr,UD,_⟩
   ·have:=congrArg List.length UD;rw [hg,nZ] at this;exact fb this
   ·rw [e] at UD;cases UD
  ·rintro v s ⟨Ur,rfl,UV,Uo⟩;exact Um Ur s Uo UV
 have F:∀ {y:al} {K:Ending->aE} {b:Nat} {x:Int},ai Uj y->bg y (some ⟨b,0,none⟩) (us [x])->b3 x->(∀ (Ur:aF) s,ai y s->cA (λk=>k<y.heap.size) s Ur (lh j bb (eQ j.dead) [x])->K (.returned Ur.val) s)->Calls prog 250 #[ptr aI,bb.val,.int .i64 (eQ j.dead),.slice (some ⟨b,0,none⟩) 1 1] y K:=λJ UF hu Um=>wr _ J UF rfl (dd 1) (λy B=>by simp at B;rw [B];exact hu) (by simp) (by simp) Um
 have kz:∀ {y:al} {K:Ending->aE},ai Uj y->(∀ (a:an) (c:Nat) s,ai y s->bg s a (us (eD q.Seq W))->3+9 * W.length<=c->K (.returned (.slice a (3+9 * W.length) c)) s)->Calls prog 210 #[q.val] y K:=by intro y K J Um;refine aD (w_ (US.new (A.new J)) Uy ⟨UU.1,UU.2.1⟩ UU.2.2.2 UO) ?_;rintro v s ⟨a,c,rfl,Uo,UE,_⟩;exact Um a c s Uo UE.rd (aY.le UE)
 have lb:∀ {y:al} {K:Ending->aE},K (.returned (.int .i64 (eQ j.dead+8))) y->Calls prog 209 #[.int .i64 j.dead] y K:=by intro y K Um;refine aD (Cd y Uv) ?_;rintro v s ⟨rfl,rfl⟩;exact Um
 have P:=kE q.Seq W;have bne:eD q.Seq W≠[]:=λe=>by rw [e] at P;simp at P <;> omega
 have fin:∀ {Z M UI UJ UK UC:al} {v1 v2 w:aF},ai Uj Z->ai Z M->cA (λk=>k<Z.heap.size) M v1 (lh j bb (eQ j.dead) [0])->ai M UI->ai UI UJ->cA (λk=>k<UI.heap.size) UJ v2 (lh j bb (eQ j.dead+8) (eD q.Seq W))->ai UJ UK->ai UK UC->cA (λk=>k<UK.heap.size) UC w (lh j bb (eQ j.dead) [eg q.Seq])->∀ (a8:Nat->an->Nat->Nat->aw) (b:Nat) (y:al),b=UC.heap.size->y=UC.alloc (.cells #[.int .i64 v1.Kind,.int .i64 v1.Node,.int .i64 v1.bQ,.int .i64 v1.N,.int .u64 v1.Old,.int .u64 v1.ai,.slice v1.Words v1.cG v1.cy,.int .u64 v1.Key,.int .i64 v1.ch,.int .i64 v2.Kind,.int .i64 v2.Node,.int .i64 v2.bQ,.int .i64 v2.N,.int .u64 v2.Old,.int .u64 v2.ai,.slice v2.Words v2.cG v2.cy,.int .u64 v2.Key,.int .i64 v2.ch,.int .i64 w.Kind,.int .i64 w.Node,.int .i64 w.bQ,.int .i64 w.N,.int .u64 w.Old,.int .u64 w.ai,.slice w.Words w.cG w.cy,.int .u64 w.Key,.int .i64 w.ch] cr)->
   (av y L bb.cells ed/\av y b1 q.cells dW/\ih r tb m j aI y)/\∃ (ap:an) (cW ac:Nat),∃ s,(Builtin.append_ #[fV,fV] fV #[(.slice aX n pc),(.slice (some ⟨b,0,none⟩) 3 3)]).run prog y=.ok (.slice ap cW ac) s/\(av s L bb.cells ed/\av s b1 q.cells dW/\ih r tb m j aI s)/\QX .normal (k8 ⟨aI,0,none⟩ ⟨b1,0,none⟩ (eg q.Seq) ap cW ac O U Q X Y (a8 b ap cW ac)) s:=by
  intro Z M UI UJ UK UC v1 v2 w na fk I nc nd Uk ne U9 Ul a8 b y h B;obtain ⟨au,J⟩:=bk h B;have au:av y b (v1.cells++v2.cells++w.cells) cr:=au;have s1:=na.size;have s2:=fk.size;have Vs:=nc.size;have Vt:=nd.size;have Vu:=ne.size;have Vm:=bD.three fk I (nc.new nd) (Uk.mono λk S=>by omega) (ne.new U9) (Ul.mono λk S=>by omega) h au J;have E:ai Uj y:=((((na.new fk).new nc).new nd).new ne).new (U9.new J);refine ⟨p E,?_⟩;have aj:=Uz.new (A.new E);obtain ⟨UB,Ux,_⟩:=aj.ex;have off:∀ {b:Nat} {cs:aw} {T:TypeId},T≠cr->av y b cs T->¬ aL aX b:=λVi h S=>by obtain ⟨Vg,UN⟩:=fm Ux S;exact UN.ne h (λe=>Vi e.symm) rfl
  obtain ⟨U5,U6,U4,U_,U7⟩:=p E;refine bD.sD aj (Uw.new (A.new E)) Vm (λk S=>by have:=UT k S;omega) (by omega) (by omega) λap D s Vh Un UR=>⟨⟨Un.ak U5 (off (by decide) U5),Un.ak U6 (off (by decide) U6),U4,U_,Un.ak U7 (off (by decide) U7)⟩,S s ap D _ Vh UR⟩
 have rest:∀ {Z M:al} {v1:aF} {UM:Nat} {a8:aF->aF->Nat->an->Nat->Nat->an->Nat->Nat->aw},ai Uj Z->ai Z M->cA (λk=>k<Z.heap.size) M v1 (lh j bb (eQ j.dead) [0])->bg M (some ⟨UM,0,none⟩) (us [eg q.Seq])->Calls prog 210 #[q.val] M λe U'=>∃ (b:an) (P fH:Nat),e=.returned (.slice b P fH)/\(λy=>av y L bb.cells ed/\av y b1 q.cells dW/\ih r tb m j aI y) U'/\Calls prog 250 #[ptr aI,bb.val,.int .i64 (eQ j.dead+8),.slice b P fH] U' λe Va=>aF.ex λG=>e=.returned G.val/\(λy=>av y L bb.cells ed/\av y b1 q.cells dW/\ih r tb m j aI y) Va/\Calls prog 250 #[ptr aI,bb.val,.int .i64 (eQ j.dead),.slice (some ⟨UM,0,none⟩) 1 1] Va λe U1=>aF.ex λH=>e=.returned H.val/\(λy=>av y L bb.cells ed/\av y b1 q.cells dW/\ih r tb m j aI y) U1/\∀ UL Us,UL=U1.heap.size->Us=U1.alloc (.cells #[.int .i64 v1.Kind,.int .i64 v1.Node,.int .i64 v1.bQ,.int .i64 v1.N,.int .u64 v1.Old,.int .u64 v1.ai,.slice v1.Words v1.cG v1.cy,.int .u64 v1.Key,.int .i64 v1.ch,.int .i64 G.Kind,.int .i64 G.Node,.int .i64 G.bQ,.int .i64 G.N,.int .u64 G.Old,.int .u64 G.ai,.slice G.Words G.cG G.cy,.int .u64 G.Key,.int .i64 G.ch,.int .i64 H.Kind,.int .i64 H.Node,.int .i64 H.bQ,.int .i64 H.N,.int .u64 H.Old,.int .u64 H.ai,.slice H.Words H.cG H.cy,.int .u64 H.Key,.int .i64 H.ch] cr)->(λy=>av y L bb.cells ed/\av y b1 q.cells dW/\ih r tb m j aI y) Us/\∃ (ap:an) (cW ac:Nat),∃ Ut,(Builtin.append_ #[fV,fV] fV #[(.slice aX n pc),(.slice (some ⟨UL,0,none⟩) 3 3)]).run prog Us=.ok (.slice ap cW ac) Ut/\(λy=>av y L bb.cells ed/\av y b1 q.cells dW/\ih r tb m j aI y) Ut/\QX .normal (k8 ⟨aI,0,none⟩ ⟨b1,0,none⟩ (eg q.Seq) ap cW ac O U Q X Y (a8 G H UL ap cW ac b P fH)) Ut
  :=by
  intro Z M v1 UM a8 na fk I Vp;refine kz (na.new fk) λa c Vc t UG lc=>⟨_,_,_,rfl,p ((na.new fk).new t),?_⟩
  refine wr (eQ j.dead+8) ((na.new fk).new t) UG P.symm lc Up (by omega) bne λv2 Vd C Uk=>aF.aS v2 ⟨rfl,p (((na.new fk).new t).new C),?_⟩
  refine F (((na.new fk).new t).new C) (Vp.new (t.new C)) Uq λw U2 Ui Ul=>aF.aS w ⟨rfl,p ((((na.new fk).new t).new C).new Ui),?_⟩
  exact fin na fk I t C Uk (ao.refl _ _) Ui Ul _
 refine ⟨λy=>av y L bb.cells ed/\av y b1 q.cells dW/\ih r tb m j aI y,p (ao.refl _ _),aO.aS bb ⟨λy B=>bI B.1 rfl,aO.aS bb ⟨λy B=>bI B.1 rfl,r.ez,λy B=>by obtain ⟨_,_,U4,U_,B⟩:=B;exact B.cell (i:=5) rfl,bN.aS q ⟨λy B=>bI B.2.1 rfl,aO.aS bb ⟨λy B=>bI B.1 rfl,?_⟩⟩⟩⟩⟩;rw [aA];refine ⟨λVf Vv h hw=>?_,λVq U2 h hw=>?_⟩
 ·obtain ⟨d,r1⟩:=m9 h hw;clear h hw;refine ⟨p d,F d r1 gQ λv1 Vb f I=>aF.aS v1 ⟨rfl,p (d.new f),?_,?_⟩,λb Vb h hw=>?_⟩
  ·refine lb ⟨_,rfl,p (d.new f),?_,?_⟩
   ·refine kz (d.new f) λa c UH g UG lc=>⟨_,_,_,rfl,p ((d.new f).new g),?_,?_⟩
    ·refine wr (eQ j.dead+8) ((d.new f).new g) UG P.symm lc Up (by omega) bne λv2 Vc t Uk=>aF.aS v2 ⟨rfl,p (((d.new f).new g).new t),λb Vd h hw=>?_⟩
     obtain ⟨C,Vo⟩:=m9 h hw;clear h hw;refine ⟨p ((((d.new f).new g).new t).new C),F ((((d.new f).new g).new t).new C) Vo Uq λw U2 Ui Ul=>aF.aS w ⟨rfl,p (((((d.new f).new g).new t).new C).new Ui),?_⟩⟩;exact fin d f I g t Uk C Ui Ul (λb ap cW ac=>_)
    ·intro b Vc h hw;obtain ⟨t,Vn⟩:=m9 h hw;clear h hw;refine ⟨p (((d.new f).new g).new t),wr (eQ j.dead+8) (((d.new f).new g).new t) (UG.new t) P.symm lc Up (by omega) bne λv2 Vd C Uk=>aF.aS v2 ⟨rfl,p ((((d.new f).new g).new t).new C),?_⟩⟩;refine F ((((d.new f).new g).new t).new C) (Vn.new C) Uq λw U2 Ui Ul=>aF.aS w ⟨rfl,p (((((d.new f).new g).new t).new C).new Ui),?_⟩
     exact fin d f I (g.new t) C Uk (ao.refl _ _) Ui Ul (λb ap cW ac=>_)
   ·intro b UH h hw;obtain ⟨g,U0⟩:=m9 h hw;clear h hw;exact ⟨p ((d.new f).new g),rest d (f.new g) (I.ax (ao.bZ g) λ_ _ e=>e) U0⟩
  ·intro b UH h hw;obtain ⟨g,U0⟩:=m9 h hw;clear h hw;exact ⟨p ((d.new f).new g),lb ⟨_,rfl,p ((d.new f).new g),rest d (f.new g) (I.ax (ao.bZ g) λ_ _ e=>e) U0⟩⟩
  ·obtain ⟨f,UZ⟩:=m9 h hw;clear h hw;refine ⟨p (d.new f),F (d.new f) (r1.new f) gQ λv1 UH g I=>aF.aS v1 ⟨rfl,p ((d.new f).new g),lb ⟨_,rfl,p ((d.new f).new g),?_⟩⟩⟩;exact rest (d.new f) g I (UZ.new g)
 ·obtain ⟨d,r1⟩:=m9 h hw;clear h hw;refine ⟨p d,λb Vb h hw=>?_⟩;obtain ⟨f,UZ⟩:=m9 h hw;clear h hw;refine ⟨p (d.new f),F (d.new f) UZ gQ λv1 UH g I=>aF.aS v1 ⟨rfl,p ((d.new f).new g),lb ⟨_,rfl,p ((d.new f).new g),?_⟩⟩⟩;exact rest (d.new f) g I ((r1.new f).new g)
end
section
def se (j:bz) (seq:Int) (W:List aR) (L:a4):Bool:=hF L j.lines && x7 (seq,W) (fB L j.lines)
def rC (j:bz) (seq:Int) (W:List aR) (Ls:List a4) (i:Nat):List aG:=if se j seq W (Ls.getD i [])=true then [] else ud j seq W (j.v.mem.getD i jn)
def lq (j:bz) (seq:Int) (W:List aR) (Ls:List a4) (n:Nat):List aG:=((List.range n).map (rC j seq W Ls)).flatten
def j9 (j:bz) (seq:Int) (W:List aR) (Ls:List a4) (G:List (List aC)):b2:=bR G (lq j seq W Ls j.v.mem.length)
theorem zI (j:bz) (seq:Int) (W:List aR) (Ls:List a4) (n:Nat):lq j seq W Ls (n+1)=lq j seq W Ls n++rC j seq W Ls n:=by unfold lq;rw [k0];simp
theorem ue {w w':al} {a:an} {W:List aR} (h:eY w a n W) {M:a2} (c:ao M w w') (b:∀ k,aL a k->¬ M k):eY w' a n W:=⟨h.rd.ax c (g0 h.rd b),h.len,h.dM,h.u64⟩
abbrev Fm (R:cp) (N:aw->aE) (Q:Exit->aw->aE):Exit->aw->aE:=aW 1 (a1 (λenv w=>Go.bn.W prog (sub (bh iq) [1,1,1,0,1,0,0,1,1,1]) env (bC prog iq R (a1 N Q)) w) (bC prog iq R (a1 N Q)))
abbrev Fl (R:cp) (N:aw->aE) (Q:Exit->aw->aE):Exit->aw->aE:=bC prog iq R (a1 (λenv w=>Go.bn.W prog (sub (bh iq) [1,1,1,0,1,0,0,1,1,0,0,1,1]) env (Fm R N Q) w) (Fm R N Q))
theorem Ks {A:a2} {r:cN} {m:aO} {j:bz} {V:ej} {T:ee} {G:List (List aC)} (Us:c6 w0 u aI tb r m j V (0,0)) (U4:ek A w0 u tb T G) (UO:fz T) (Vh:kx w0 u aI tb V Ls) (Vb:Ls.length=j.v.mem.length) {q:bN} {W:List aR} (Uy:eY u q.ef q.dF W) (UA:ff q.Seq W 256=0) (UV:∀ x ∈ eD q.Seq W,b3 x) :
  ba 247 [ptr aI,q.val] u (kQ A w0 u aI tb r m j V (j9 j q.Seq W Ls G)):=by
 refine bc Tryz.func247 ?_;rw [ptr,Qv];generalize UL:kQ A w0 u aI tb r m j V (j9 j q.Seq W Ls G)=P;obtain ⟨⟨UZ,UU,UT,Vm,Uv⟩,U6⟩:=Vh;have U7:=Us.ak.lt;have U_:=U4.ak.lt;have Vf:=Us.ca.mem;have U:=Us.bs.lines;obtain ⟨_,UB,_⟩:=jD UA;obtain ⟨Vs,K⟩:=Us.bs.view;have hlen:=K.len;rintro b1 w1 UM UD;obtain ⟨O,B⟩:=bk UM UD;have O:av w1 b1 q.cells dW:=O;clear UD;have US:=B.size;have Q:=Us.bw B;refine ⟨_,O.cell (i:=0) rfl,?_⟩;refine aD (xX w1 ⟨UB.1,UB.2.1⟩) ?_;rintro v Ut ⟨rfl,rfl⟩;refine ⟨_,_,rfl,_,_,_,Q.ak.cell (i:=4) rfl,?_⟩;refine c1 mix (λk env z=>∃ (i n:Nat) (aX:an) (pc:Nat) (D:aw),k=j.v.mem.length - i/\i<=j.v.mem.length/\n<=3 * i/\env=sE ⟨aI,0,none⟩ ⟨b1,0,none⟩ (eg q.Seq) aX n pc r.View.e8 r.View.eM r.View.fv r.View.eM i D/\ai Ut z/\bD Ut z aX n pc (lq j q.Seq W Ls i)) j.v.mem.length
  ⟨0,0,none,0,_,by omega,by omega,by omega,rfl,ao.refl _ _,bD.nil _ _⟩ ?_
 rintro k env z ⟨i,n,aX,pc,D,rfl,Vt,Vj,rfl,l,X⟩;have Uo:=Q.bw l;have Uw:=Uo.new;refine gK (fn:=iq) (R:=P) (λ_ _=>rfl) ?_;rw [OM,hlen];refine a9 (λUp=>?_) (λVe=>?_)
 ·obtain ⟨bb,hm⟩:∃ bb,j.v.mem[i]?=some bb:=⟨_,bM (by omega)⟩;obtain ⟨s,U8⟩:∃ s,UZ[i]?=some s:=⟨_,bM (by omega)⟩;obtain ⟨L,U3⟩:∃ L,Ls[i]?=some L:=⟨_,bM (by omega)⟩;have Uu:=Uv i s L U8 U3;have Vi:=Us.ca.dQ bb (cj hm);have Va:Ls.getD i []=L:=by rw [cK,U3];rfl
  have em:j.v.mem.getD i jn=bb:=by rw [cK,hm];rfl
  refine ew (cells:=aO.cells) aO.len (by omega) (K.rd.new Uw) hm rfl rfl λb Vo UN _=>aO.aS bb ⟨UN,?_⟩
  refine dU (vs:=bb.cells) rfl (aO.single _) λU1 Vp Vc UX H=>?_
  obtain ⟨a5,UK⟩:∃ a5:aw->aE,∀ env w,a5 env w=(∃ U',U'<j.v.mem.length - i/\∃ (UG n:Nat) (aX:an) (pc:Nat) (D:aw),U'=j.v.mem.length - UG/\UG<=j.v.mem.length/\n<=3 * UG/\env=sE ⟨aI,0,none⟩ ⟨b1,0,none⟩ (eg q.Seq) aX n pc r.View.e8 r.View.eM r.View.fv r.View.eM UG D/\ai Ut w/\bD Ut w aX n pc (lq j q.Seq W Ls UG)):=⟨_,λ_ _=>rfl⟩;have UH:∀ {UI:al} {Y:an} {n' Z:Nat} (D:aw),n'<=3 * (i+1)->ai Ut UI->bD Ut UI Y n' Z (lq j q.Seq W Ls (i+1))->∀ {N:aw->aE} {iF:Exit->aw->aE},(∀ env w,a5 env w->N env w)->
    Go.bn.W prog (sub (bh iq) [1,1,1,0,1,0,0,1,1,1]) (k8 ⟨aI,0,none⟩ ⟨b1,0,none⟩ (eg q.Seq) Y n' Z r.View.e8 j.v.mem.length r.View.fv (j.v.mem.length:Nat) i D) (bC prog iq P (a1 N iF)) UI:=by
   intro UI Y n' Z D Uq Ux UC N iF Uk;rw [PD,bA (x:=(i:Int)+1) (by omega) (by omega)];exact ev (Uk _ _ ((UK _ _).mpr ⟨j.v.mem.length - (i+1),by omega,i+1,n',Y,Z,_,rfl,by omega,Uq,by rw [hlen];rfl,Ux,UC⟩))
  rw [ON];refine gK (fn:=iq) (R:=P) (λ_ _=>rfl) ?_;rw [Pz];rintro UJ UE;have C:ai Vp UJ:=by rw [UE];exact cL _
  clear UE;have F:=l.new (H.new C);have S:=Q.bw F;refine ⟨λy=>ai UJ y,ao.refl _ _,_,_,_,λy UF=>(ai.ak UF S.ak).cell (i:=13) rfl,?_⟩;refine j8 (cells:=lU) (sz:=1) (λ_=>rfl) (by decide) (UU.new (B.new F)) U8 rfl UT λb' Vo UP=>⟨s.a,s.n,s.c,λy UF=>by simpa using UP y UF 0 _ rfl,r.gS,λy UF=>(ai.ak UF S.ak).cell (i:=2) rfl,?_⟩
  rw [U];have J:lq j q.Seq W Ls (i+1)=lq j q.Seq W Ls i++(if se j q.Seq W L=true then [] else ud j q.Seq W bb):=by rw [zI];unfold rC;rw [Va,em]
  have f4:∀ {y:al} (t:Bool),t=se j q.Seq W L->ai UJ y->∀ (D:aw) {N:aw->aE} {iF:Exit->aw->aE},(∀ env w,a5 env w->N env w)->(∀ env w,iF .ret env w=dh prog iq P .ret env w)->
    Go.bn.W prog (sub (bh iq) [1,1,1,0,1,0,0,1,1,0,0,1,0,1,1]) (u9 ⟨aI,0,none⟩ ⟨b1,0,none⟩ (eg q.Seq) aX n pc ⟨U1,0,none⟩ r.View.e8 j.v.mem.length r.View.fv (j.v.mem.length:Nat) i t D) (Fl P N iF) y:=by
   intro y t U9 g D N iF Uk Ul;rw [lm];have U5:=F.new g;refine fy (λUm=>?_) (λUm=>?_)
   ·refine oU (oG (ev (UH _ (by omega) (l.new ((H.new C).new g)) ?_ Uk)));rw [J,if_pos (by rw [<-U9,Um]),g_];exact X.new ((H.new C).new g)
   ·refine ev (gK (fn:=iq) (R:=P) (λ_ _=>rfl) ?_);have d:=(H.new C).new g;refine H3 (Uo.bw d) (ai.ak (l.new d) O) (ai.ak (C.new g) UX) (by unfold dO;omega) ((Uy.new B).new (l.new d)) UA UV (xB _) (l.new d) (X.new d) (by omega) _ _ _ _ _ _ λUI ap U2 Vn UW Uq=>?_
    refine oF (ev (UH _ (by omega) Uq ?_ Uk));rw [J,if_neg (by rw [<-U9,Um];simp)];exact UW
  have f3:∀ {y:al} {Uj:Nat} {pb:an} {aT:Nat},av y Uj (bN.cells ⟨(fB L j.lines).1,pb,(fB L j.lines).2.length,aT⟩) dW->ai UJ y->eY y pb (fB L j.lines).2.length (fB L j.lines).2->∀ (D:aw) {N:aw->aE} {iF:Exit->aw->aE},(∀ env w,a5 env w->N env w)->(∀ env w,iF .ret env w=dh prog iq P .ret env w)->
    Go.bn.W prog (sub (bh iq) [1,1,1,0,1,0,0,1,1,0,0,1,0,1]) (u7 ⟨aI,0,none⟩ ⟨b1,0,none⟩ (eg q.Seq) aX n pc ⟨U1,0,none⟩ ⟨Uj,0,none⟩ (hF L j.lines) r.View.e8 j.v.mem.length r.View.fv (j.v.mem.length:Nat) i D) (Fl P N iF) y:=by
   intro y Uj pb aT UY g Uz D N iF Uk Ul;rw [OO];refine gK (fn:=iq) (R:=P) (λ_ _=>rfl) ?_;rw [PB];have d:=l.new ((H.new C).new g);refine fy (λUm=>?_) (λUm=>?_)
   ·refine bN.aS q ⟨bI (ai.ak d O) rfl,bN.aS _ ⟨bI UY rfl,?_⟩⟩;refine aD (MO ((Uy.new B).new d) Uz) ?_;rintro v Vv ⟨rfl,f⟩;refine ⟨_,rfl,ev (f4 _ ?_ (g.new f) _ Uk Ul)⟩;unfold se;rw [Um];rfl
   ·refine ev (f4 _ ?_ g _ Uk Ul);unfold se;rw [Um];rfl
  refine ⟨?_,?_⟩
  ·refine aD (zn j.lines (Uu.new S.new)) ?_;rintro v Vq ⟨pb,aT,rfl,o,I,Ui⟩;refine bN.aS ⟨(fB L j.lines).1,pb,(fB L j.lines).2.length,aT⟩ ⟨_,rfl,o,?_⟩;rintro Uj U0 Un M;obtain ⟨p,f⟩:=bk Un M;have p:av U0 Uj ib.cells dW:=p;clear M;refine ⟨o.new f,dC (vs:=bN.cells ⟨(fB L j.lines).1,pb,(fB L j.lines).2.length,aT⟩) p rfl (bN.single _) λVr Ur E=>?_⟩;have Vk:=o.size;exact f3 Ur ((o.new f).trans E λk Up e=>by omega) (I.new (f.trans E λk Up e=>by omega)) _ (λenv w h=>by rw [UK,hlen] at h;exact h) λ_ _=>rfl
  ·rintro Uj U0 Un M;obtain ⟨p,f⟩:=bk Un M;have p:av U0 Uj ib.cells dW:=p;clear M;refine ⟨f,aD (zn j.lines (Uu.new (S.bw f).new)) ?_⟩;rintro v Vq ⟨pb,aT,rfl,o,I,Ui⟩;have Vl:=f.size;have Vd:=p.lt;refine bN.aS ⟨(fB L j.lines).1,pb,(fB L j.lines).2.length,aT⟩ ⟨_,rfl,f.new o,dC (vs:=bN.cells ⟨(fB L j.lines).1,pb,(fB L j.lines).2.length,aT⟩) (ai.ak o p) rfl (bN.single _) λVr Ur E=>?_⟩;exact f3 Ur ((f.new o).trans E λk Up e=>by omega) (ue I E λk Vg e=>by have:=Ui k Vg;omega) _ (λenv w h=>by rw [UK,hlen] at h;exact h) λ_ _=>rfl
 ·have UQ:i=j.v.mem.length:=by omega
  subst UQ;refine oU (oG (ev ?_));refine gK (fn:=iq) (R:=P) (λ_ _=>rfl) ?_;rw [PA];refine aD (mJ Uo (U4.new (B.new l)) UO Q.new (by omega) (by omega) X (by rw [<-X.len];omega)) ?_;rintro v Vu ⟨dk,dc,raw,rfl,UR,_⟩;rw [<-UL];exact ⟨_,_,_,_,rfl,rfl,UR.of (B.new l) US⟩
end
section
noncomputable abbrev qT:Func:=f227
def tf (j:bz) (seq:Int) (bb:aO):aG:=lh j bb (32+j.dead) [seq]
def me (j:bz) (seq:Int) (l:List aR) (bb:aO):List aG:=l.map (mL j bb)++[tf j seq bb]
def nS (j:bz) (seq:Int) (l:List aR):List aG:=(j.v.mem.tail.map (me j seq l)).flatten
def qv (j:bz) (m:aO) (seq:Int) (l:List aR):List aG:=tf j seq m::l.map (mL j m)
def nC (j:bz) (m:aO) (seq:Int) (l:List aR) (B:b2):b2:=if B.ok=false then B else bR B.a7 (qv j m seq l)
def ou (j:bz) (m:aO) (seq:Int) (W:List aR) (P:b2):b2:=
 if P.ok=false then P else if (fY j W P.done P.done.length).length=0 then P else nC j m seq (fY j W P.done P.done.length) (bR P.a7 (nS j seq (fY j W P.done P.done.length)))
def mQ (j:bz) (m:aO) (seq:Int) (W:List aR) (Ls:List a4) (G:List (List aC)):b2:=
 if (j9 j seq W Ls G).ok=false then j9 j seq W Ls G else ou j m seq W (e' j m W (j9 j seq W Ls G).a7)
theorem Aq {j:bz} {W:List aR} {ds:List aC} (h:n<=W.length):∀ p ∈ fY j W ds n,p ∈ W:=by
 intro p c;unfold fY at c;obtain ⟨l,d,a⟩:=kZ.1 c;obtain ⟨i,b,rfl⟩:=cD.1 d;have b:=dS.1 b;unfold qk at a;split at a
 ·simp at a;subst a;rw [bM (show i<W.length by omega)];exact jw _
 ·simp at a
theorem MU (G:List (List aC)) (vs:List aG):(bR G vs).done.length<=vs.length:=by
 unfold bR cd;split
 ·simp
 split
 ·simp
 ·exact pP
theorem Kt {j:bz} {m:aO} {W:List aR} {G:List (List aC)}:(e' j m W G).done.length<=W.length:=by have:=MU G (W.map (o' j m));rwa [fc] at this
structure pn (l:List aR):Prop where
 wr:qF l
 j6:∀ p ∈ l,∀ x ∈ gZ p,b3 x
theorem pn.sub {W l:List aR} (h:pn W) (hm:∀ p ∈ l,p ∈ W) (b:l.length<=W.length):pn l:=⟨⟨by have:=h.wr.dM;omega,λp a=>h.wr.ok p (hm p a)⟩,λp a=>h.j6 p (hm p a)⟩
section
variable {A:a2} {w0 u:al} {aI tb:Nat} {r:cN} {m:aO} {j:bz} {V:ej} {T:ee} {G:List (List aC)}
theorem Ku (UQ:c6 w0 u aI tb r m j V (0,0)) (U2:ek A w0 u tb T G) (UA:fz T) {w1:al} (UK:ai w0 w1) (Uj:tb<w1.heap.size) (Y:aI<w1.heap.size) (Uv:ai w1 u) {vs:List aG} (UJ:bD w1 u aX n pc vs) (UR:vs.length<=1000) {l:List aR} (UD:eY u la l.length l) (UB:∀ k,aL la k->k≠tb/\k≠aI) (O:pn l) (UG:b3 seq) (Va:aw)
  (UP:∀ S v bo,S=nC j m seq l (bR G vs)->v=.bool S.ok->ec A w0 u aI tb w1.heap.size r m j V S bo->R v bo) :
  Go.bn.W prog (sub (bh qT) [1,1,1,1,1,1,1,1]) (yD ⟨aI,0,none⟩ la l.length lc (32+j.dead) seq aX n pc Va) (dh prog qT R) u:=by
 rw [PF];have N:=UQ.dQ;refine aD (mJ UQ U2 UA UK Uj Y UJ (by omega)) ?_;rintro v bH ⟨dk,dc,raw,rfl,w,_⟩;have w:ec A w0 u aI tb w1.heap.size r m j V (bR G vs) bH:=w;refine ⟨_,_,_,_,rfl,dZ (λUr=>?_) (λUs=>?_)⟩
 ·have Ur:(bR G vs).ok=false:=Ur;exact UP (bR G vs) _ _ (if_pos Ur).symm (by rw [Ur]) w
 have Us:(bR G vs).ok=true:=Us;obtain ⟨Q,D,UM⟩:=nG Us;have U1:nC j m seq l (bR G vs)=bR (bR G vs).a7 (qv j m seq l):=if_neg (by rw [Us];simp);have Ui:=w.eb;rw [Q] at Ui;obtain ⟨Vh,Uw,C,L⟩:=w.hp;rw [D] at L;rw [UM] at C;have X:eY bH la l.length l:=ue UD w.ax λk D e=>by have:=UB k D;exact e.elim this.1 this.2
 rintro z au;have i:ai bH z:=by rw [au];exact cL _
 clear au;have f:=Ui.bw i;have J:=Uw.new i;have UF:=X.new i;have U':=i.size;have U4:=w.ax.size;have Uk:=J.ak.lt;have Z:=f.ak.lt;have U_:=Uv.size;have q:∀ {y:al},ai z y->ih r tb m j aI y:=λU7=>⟨_,_,(f.bw U7).ak⟩
 refine ⟨ih r tb m j aI,q (ao.refl _ _),aO.aS m ⟨λy E=>by obtain ⟨UY,Vc,E⟩:=E;exact bI E rfl,aO.aS m ⟨λy E=>by obtain ⟨UY,Vc,E⟩:=E;exact bI E rfl,?_⟩⟩⟩;rintro b1 Vf Ux Uo;obtain ⟨Ut,r1⟩:=m9 Ux Uo;clear Uo;refine ⟨q Ut,?_⟩;refine aD (we (f.bw Ut) N (32+j.dead) r1 rfl (dd 1) (λe=>by cases e) (λx UU=>by simp at UU;rw [UU];exact UG) (show 1<=1000000 by decide)) ?_;rintro v Vg ⟨UW,rfl,h,Vb⟩;have d:=Ut.new Vb;have U9:=Ut.size;have h:cA (λk=>k<Vf.heap.size) Vg UW (tf j seq m):=h;have last:∀ {y:al} {ap:an} {ac nn:Nat},ai z y->nn=1+l.length->bD z y ap nn ac (qv j m seq l)->Calls prog 221 #[ptr aI,.slice ap nn ac] y λe UX=>∃ (s:an) (Vd sc:Nat) (b:Bool),e=.returned (.tuple #[.slice s Vd sc,.bool b])/\ih r tb m j aI UX/\R (.bool b) UX:=by intro y ap ac nn g U8 Um;have U6:=O.wr.dM;refine aD (mJ (f.bw g) (J.new g) ⟨L,C⟩ f.new Uk Z Um (by rw [<-Um.len];omega)) ?_;rintro v Vi ⟨dk,dc,raw,rfl,U,_⟩;refine ⟨_,_,_,_,rfl,⟨_,_,U.eb.ak⟩,UP _ _ _ U1.symm rfl ?_⟩;exact ec.seq w.ax (i.new g) U (by omega)
 have Up:∀ {y:al} {K:Ending->aE},ai z y->(∀ (a:an) (c:Nat) Uq,ai y Uq->bD y Uq a l.length c (l.map (mL j m))->K (.returned (.slice a l.length c)) Uq)->Calls prog 249 #[ptr aI,m.val,.slice la l.length lc] y K:=by intro y K g U0;refine aD (Ap (f.bw g) N (UF.new g) O.wr O.j6) ?_;rintro v Uq ⟨a,c,rfl,UC,h⟩;exact U0 a c Uq UC h
 refine aF.aS UW ⟨rfl,q d,?_,?_⟩
 ·rintro az Vj Uy UL;obtain ⟨B,F⟩:=bD.box d (h.mono λk D=>by omega) Uy UL;have p:=d.new F;refine ⟨q p,Up p λa c Vk H UH=>⟨_,_,_,rfl,q (p.new H),?_⟩⟩;refine bD.sD (B.new H) (p.new H) UH (λk D=>by obtain ⟨UV,Q,_⟩:=B.ex;exact Q.lt D) p.size (by have:=O.wr.dM;omega) λap I Vl UZ U3 P=>⟨q P,last P rfl UZ⟩
 ·refine Up d λa c Vm F UI=>⟨_,_,_,rfl,q (d.new F),?_⟩
  rintro UO UN Uz Un;obtain ⟨Ul,H⟩:=bD.box (d.new F) ((h.ax (ao.bZ F) λ_ _ e=>e).mono λk D=>by omega) Uz Un;have UT:=d.size;have UE:j2 (λk=>k<z.heap.size\/aL (some ⟨UO,0,none⟩) k) UN a l.length (l.map (mL j m)):=(UI.iU (M:=λk=>k<z.heap.size) λk _ e=>by omega).wide H λk U5 e=>by
   rcases e with e | ⟨o,Q⟩
   ·exact e
   ·exfalso;have:UO=k/\0=o:=jE Q;omega
  refine ⟨q ((d.new F).new H),bD.DK Ul ((d.new F).new H) UE (by have:=O.wr.dM;omega) λap I Ve Uu US t=>⟨q t,last t rfl Uu⟩⟩
theorem Kv (s:c6 w0 u aI tb r m j V (0,0)) (Uy:ek A w0 u tb T G) (Ul:fz T) {X:an} {fH:Nat} (Uj:bg u X (fW j.v.mem.tail).flatten) {l:List aR} (F:eY u la l.length l) (Um:∀ k,aL la k->k≠tb/\k≠aI) (O:pn l) (I:b3 seq) (Q:aw)
  (UE:∀ S v bo,S=nC j m seq l (bR G (nS j seq l))->v=.bool S.ok->ec A w0 u aI tb u.heap.size r m j V S bo->R v bo) :
  cx prog (.loop (sub (bh qT) [1,1,1,1,1,1,1,0,1,0,0])) (sF ⟨aI,0,none⟩ la l.length lc (32+j.dead) seq none 0 0 X (j.v.mem.length - 1) fH ((j.v.mem.length - 1:Nat):Int) 0 Q)
   (aW 0 (a1 (λenv w=>Go.bn.W prog (sub (bh qT) [1,1,1,1,1,1,1,1]) env (dh prog qT R) w) (dh prog qT R))) u:=by
 have UI:=s.ca.mem;have UM:=O.wr.dM;have H:=s.ak.lt;have J:=Uy.ak.lt;have UR:j.v.mem.tail.length=j.v.mem.length - 1:=n0;have f:∀ i,((j.v.mem.tail.take i).map (me j seq l)).flatten.length<=60+5:=by
  intro i;have UC:=Do (b:=l.length+1) ((j.v.mem.tail.take i).map (me j seq l)) λx P=>by obtain ⟨m,_,rfl⟩:=cD.1 P;unfold me;simp
  rw [fc,gR] at UC;have UZ:min i j.v.mem.tail.length * (l.length+1)<=5 * 13:=o1 (by omega) (by omega);omega
 refine c1 mix (λq env z=>∃ (i n:Nat) (aX:an) (pc:Nat) (Q:aw),q=j.v.mem.tail.length - i/\i<=j.v.mem.tail.length/\env=sF ⟨aI,0,none⟩ la l.length lc (32+j.dead) seq aX n pc X (j.v.mem.length - 1) fH ((j.v.mem.length - 1:Nat):Int) i Q/\ai u z/\bD u z aX n pc (((j.v.mem.tail.take i).map (me j seq l)).flatten)) j.v.mem.tail.length
  ⟨0,0,none,0,_,rfl,by omega,rfl,ao.refl _ _,bD.nil _ _⟩ ?_
 rintro q env z ⟨i,n,aX,pc,Q,rfl,U0,rfl,a,c⟩;rw [OP];have B:=s.bw a;have UQ:=a.size;have Ut:=c.len;have Up:=f i;refine a9 (λUL=>?_) (λUH=>?_)
 ·obtain ⟨bb,hm⟩:∃ bb,j.v.mem.tail[i]?=some bb:=⟨_,bM (by omega)⟩;have UN:=s.ca.dQ bb (qi (cj hm));have y:dO bb.ch:=by unfold dO;omega
  have Y:((j.v.mem.tail.take (i+1)).map (me j seq l)).flatten=((j.v.mem.tail.take i).map (me j seq l)).flatten++me j seq l bb:=by rw [eT,hm];simp
  refine ew (cells:=aO.cells) aO.len (by omega) (Uj.new a) hm rfl (by omega) λb o Uk _=>aO.aS bb ⟨Uk,?_⟩
  refine dU (vs:=bb.cells) rfl (aO.single _) λUA UT UG L d=>aO.aS bb ⟨bI L rfl,?_⟩
  have UP:=d.size;rw [bA (x:=(i:Int)+1) (by omega) (by omega)];refine aD (Ap (B.bw d) y ((F.new a).new d) O.wr O.j6) ?_;rintro v U1 ⟨gA,gc,rfl,g,Uu⟩;refine ⟨_,_,_,rfl,?_⟩;have E:∀ k,aL aX k->k<UT.heap.size:=λk UJ=>by obtain ⟨N,Us,_⟩:=c.ex;have:=Us.lt UJ;omega
  refine bD.sD ((c.new d).new g) ((a.new d).new g) Uu E (by omega) (by omega) λap Uw UU UD Uo D=>?_
  have C:=s.bw D;have M:av UU UA bb.cells ed:=Uo.ak (ai.ak g L) λe=>by obtain ⟨N,Us,_⟩:=c.ex;have:=Us.lt e;omega
  refine aO.aS bb ⟨bI M rfl,?_⟩;rintro UY UV Ui K;obtain ⟨h,US⟩:=m9 Ui K;clear K;refine aD (we (C.bw h) y (32+j.dead) US rfl (dd 1) (λe=>by cases e) (λx P=>by simp at P;rw [P];exact I) (show 1<=1000000 by decide)) ?_;rintro v UW ⟨Uz,rfl,p,Uq⟩;have p:cA (λk=>k<UV.heap.size) UW Uz (tf j seq bb):=p;refine aF.aS Uz ⟨rfl,?_⟩;rintro UX U2 Z Uv;refine bD.lk (UD.new h) (D.new h) Uq p (by omega) Z Uv λU t U3 Ux UK Ur=>?_
  have UB:((j.v.mem.tail.take i).map (me j seq l)).flatten++l.map (mL j bb)++[tf j seq bb]=((j.v.mem.tail.take (i+1)).map (me j seq l)).flatten:=by rw [Y];unfold me;rw [jW]
  rw [UB] at Ux;exact ⟨j.v.mem.tail.length - (i+1),by omega,i+1,_,U,t,_,rfl,by omega,rfl,Ur,Ux⟩
 ·have Un:i=j.v.mem.tail.length:=by omega
  subst Un;rw [hq] at c Ut Up;refine Ku B (Uy.new a) Ul s.new J H a c (by omega) (F.new a) Um O I _ λS v bo UF aj UO=>UE S v bo UF aj ?_
  exact UO.of a (dd _)
theorem H4 (N:c6 w0 u aI tb r m j V (0,0)) (UL:ek A w0 u tb T G) (UA:fz T) (UC:kx w0 u aI tb V Ls) (Uv:Ls.length=j.v.mem.length) {q:bN} {W:List aR} (Ul:eY u q.ef q.dF W) (J:∀ k,aL q.ef k->k≠tb/\k≠aI) (Up:ff q.Seq W 256=0) (UH:∀ x ∈ eD q.Seq W,b3 x) (UN:pn W) :
  ba 227 [ptr aI,q.val] u (kQ A w0 u aI tb r m j V (mQ j m q.Seq W Ls G)):=by
 refine bc Tryz.func227 ?_;rw [ptr,Qf];have UO:=N.ak.lt;have UR:=UL.ak.lt;have UB:=N.ca.dead;have aA:=N.bs.dead;obtain ⟨_,UY,_⟩:=jD Up;rintro b1 w1 Uy Uq;obtain ⟨z,c⟩:=bk Uy Uq;have z:av w1 b1 q.cells dW:=z;clear Uq;have UG:=c.size;refine bN.aS q ⟨bI z rfl,?_⟩;refine aD (Ks (N.bw c) (UL.new c) UA (UC.new c) Uv (Ul.new c) Up UH) ?_;rintro v U4 ⟨rfl,o⟩;have g:=o.of (B':=u.heap.size) c UG;refine ⟨_,rfl,dZ (λZ=>?_) (λUQ=>?_)⟩
 ·have e:mQ j m q.Seq W Ls G=j9 j q.Seq W Ls G:=if_pos Z;exact ⟨by rw [e,Z],by rw [e];exact g⟩
 have Q:mQ j m q.Seq W Ls G=ou j m q.Seq W (e' j m W (j9 j q.Seq W Ls G).a7):=if_neg (by rw [UQ];simp);obtain ⟨UX,O,UI⟩:=nG UQ;have Uo:=o.eb;rw [show (j9 j q.Seq W Ls G).out=(0,0) from UX] at Uo;obtain ⟨U1,Uw,D,R⟩:=o.hp;rw [show (j9 j q.Seq W Ls G).ask=none from O] at R;rw [show (j9 j q.Seq W Ls G).di=false from UI] at D;have d:b1≠tb/\b1≠aI:=by constructor<;>omega
 have H:=o.ax.ak z λe=>e.elim d.1 d.2
 have Um:=ue (Ul.new c) o.ax λk O e=>e.elim (J k O).1 (J k O).2
 refine bN.aS q ⟨bI H rfl,?_⟩;refine aD (Hi Uo Uw ⟨R,D⟩ Um J UN.wr) ?_;rintro v US ⟨aX,pc,rfl,h,t,UE⟩;have s:=Kt (j:=j) (m:=m) (W:=W) (G:=(j9 j q.Seq W Ls G).a7);generalize UU:(j9 j q.Seq W Ls G).a7=a at h t Q s;have b:ec A w0 u aI tb u.heap.size r m j V (e' j m W a) US:=ec.seq g.ax (ao.refl _ _) h (g.ax.size);refine ⟨_,_,_,_,rfl,dZ (λZ=>?_) (λw=>?_)⟩
 ·have e:ou j m q.Seq W (e' j m W a)=e' j m W a:=if_pos Z;exact ⟨by rw [Q,e,Z],by rw [Q,e];exact b⟩
 have Uu:ou j m q.Seq W (e' j m W a)=if (fY j W (e' j m W a).done (e' j m W a).done.length).length=0 then e' j m W a else nC j m q.Seq (fY j W (e' j m W a).done (e' j m W a).done.length) (bR (e' j m W a).a7 (nS j q.Seq (fY j W (e' j m W a).done (e' j m W a).done.length))):=if_neg (by rw [w];simp);have B:=nG w;have Uk:(e' j m W a).out=(0,0):=B.1;have Ui:(e' j m W a).ask=none:=B.2.1;have F:(e' j m W a).di=false:=B.2.2;clear B;have Y:(e' j m W a).done.length<=W.length:=s;generalize e' j m W a=P at h b t Q Uu Uk Ui F Y w;have C:=h.eb;rw [show P.out=(0,0) from Uk] at C;obtain ⟨U2,Ux,E,U⟩:=h.hp;rw [show P.ask=none from Ui] at U;rw [show P.di=false from F] at E;have Un:=Aq (j:=j) (ds:=P.done) Y;have UF:=zH j W P.done P.done.length;generalize fY j W P.done P.done.length=l at t Uu Un UF;rw [Q,Uu];refine dJ (λUT=>?_) (λUT=>?_)
 ·rw [if_pos (by omega)];exact ⟨by rw [show P.ok=true from w],b⟩
 rw [if_neg (by omega)];have Us:=h.ax.ak H λe=>e.elim d.1 d.2
 rintro UK Ur;have K:ai US UK:=by rw [Ur];exact cL _
 clear Ur;have X:=C.bw K;have Ut:=ai.ak K Us;refine ⟨λy=>ai UK y,ao.refl _ _,r.ez,λy UJ=>(ai.ak UJ X.ak).cell (i:=5) rfl,q.Seq,λy UJ=>(ai.ak UJ Ut).cell (i:=0) rfl,?_⟩;dsimp only;rw [aA,jV (x:=q.Seq) (by omega) (by omega)];refine aD (t' UK UB) ?_;rintro v U5 ⟨rfl,L⟩;have I:=X.bw L;obtain ⟨U0,M⟩:=N.bs.view;refine ⟨_,rfl,L,cO.aS r.View ⟨bI I.ak rfl,?_⟩⟩;refine aD (AJ (M.new I.new) N.ca.mem.1) ?_;rintro v UZ ⟨U3,fH,rfl,Uj,Uz⟩;refine ⟨_,_,_,rfl,?_⟩;have f:=(K.new L).new Uj;have n:=UN.sub Un (by omega);have s:eY UZ aX l.length l:=⟨t.new f,rfl,by have:=n.wr.dM;omega,λp UD=>(n.wr.ok p UD).2.2.2.2⟩;have UW:=g.ax.size;have UM:=b.ax.size;have UP:=f.size;refine Kv (I.bw Uj) (Ux.new f) ⟨U,E⟩ Uz s (λk O=>?_) n (seq:=q.Seq) ⟨by omega,by omega⟩ _ λS v bo UV aj UD=>?_
 ·have:=UE k O;constructor<;>omega
 ·rw [<-UV];exact ⟨aj,ec.seq b.ax f UD (by omega)⟩
end
end
end Go.Proofs.YtmkljjbioomepaaGreat
