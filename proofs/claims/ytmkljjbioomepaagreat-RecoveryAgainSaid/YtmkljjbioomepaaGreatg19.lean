import Derived.Test.YtmkljjbioomepaaGreatg18
set_option linter.all false
set_option maxHeartbeats 4000000
set_option maxRecDepth 100000
namespace Go.Proofs.YtmkljjbioomepaaGreat
open Go.Proofs.Tryz Go.bJ
variable {A:a4}{B b lc n pc aI tb:Nat}{L:a7}{Ls:eE}{R:cM}{a la aW:ak}{lines seq:Int}{u bB w w0:an}
section
def fw (j:bL)(m:aS)(W:List aN)(G:a3):cd:=bN G (W.map (uZ j m))
theorem L4 {r:c_}{m:aS}{j:bL}{V:eU}{T:eM}{G:a3}(ah:dv w0 u aI tb r m j V (0,0))(ag:eV A w0 u tb T G)(aX:gF T){q:b7}{W:List aN}(H:fM u q.eN q.dZ W)(cr:∀ k,aP q.eN k->k≠tb/\k≠aI)(fu:s4 W) :
  a5 248 [ptr aI,q.val] u (E3 A w0 u aI tb r m j V W (fw j m W G)):=by
 refine ba Tryz.func248 ?_;rw[ptr,Vm];have bM:=ah.aj.lt;have bT:=ag.aj.lt;have hlen:=H.len;have bA:=fu.ei;rintro b1 w1 aO Z;obtain⟨t,c⟩:=bo aO Z;have t:av w1 b1 q.cells er:=t;clear Z;have bk:=c.size;refine⟨_,_,_,t.cell (i:=1) rfl,?_⟩;refine cZ mix (λk env z=>∃ (i:Nat) (aW:ak) (pc:Nat) (aC:ax),k=W.length-i/\i<=W.length/\env=xP ⟨aI,0,none⟩ ⟨b1,0,none⟩ none 0 0 aW i pc q.eN q.dZ q.hR q.dZ i aC/\ai w1 z/\bP w1 z aW i pc ((W.take i).map (uZ j m))) W.length
  ⟨0,none,0,_,by omega,by omega,rfl,ao.refl _ _,bP.nil _ _⟩ ?_
 rintro k env z ⟨i,aW,pc,aC,rfl,cY,rfl,d,s⟩;rw[TS,hlen];have M:=ah.bH (c.new d);refine bb (λcy=>?_) (λct=>?_)
 ·obtain⟨p,bK⟩:∃ p,W[i]?=some p:=⟨_,b2 (by omega)⟩;obtain⟨c2,c3,cF,cG,c4⟩:=fu.ok p (b9 bK);refine eQ (cells:=aN.cells) aN.len (by omega) ((H.new c).new d).rd bK rfl rfl λb cB aR _=>aN.aV p ⟨aR,?_⟩
  refine io (vs:=p.cells) rfl (aN.single _) λb8 cS cp bq a'=>?_
  rintro bx ab;have P:ai cS bx:=by rw[ab];exact cR _
  clear ab;have C:=a'.new P;have L:=M.bH C;have w:=ai.aj P bq;refine⟨λy=>av y b8 p.cells fr/\jy r tb m j aI y,⟨w,_,_,L.aj⟩,aS.aV m ⟨λy ae=>by obtain⟨_,cU,cB,ae⟩:=ae;exact bX ae rfl,p.bt,λy ae=>ae.1.cell (i:=0) rfl,?_⟩⟩;refine aB (qV bx cF cG) ?_;rintro v b0 ⟨rfl,bz⟩;have F:ai bx b0:=by rw[bz];exact ao.refl _ _
  clear bz;have E:=L.bH F;have af:=ai.aj F w;refine⟨_,rfl,⟨af,_,_,E.aj⟩,?_⟩;refine aB (wi E ah.eX (p.bt*8) 1) ?_;rintro v b3 ⟨cI,rfl,bl,o⟩;have l:=E.bH o;have B:=ai.aj o af;refine aG.aV cI ⟨rfl,⟨B,_,_,l.aj⟩,?_⟩;rintro cV cT aQ ad;have Q:ai b3 cT:=by rw[ad];exact hF _ _
  have g:ai z b0:=C.new F;refine⟨⟨ai.aj Q B,_,_,(l.bH Q).aj⟩,bP.mC (s.new g) (d.new g) o bl (by omega) aQ ad λap J c5 cW O bh=>?_⟩;obtain⟨bV,U,_⟩:=(s.new (g.new o)).ex;have off:∀ {b:Nat} {cs:ax} {T:bY},T≠cP->av b3 b cs T->¬ aP aW b:=λag cn bD=>by obtain⟨b_,aZ⟩:=gN U bD;exact aZ.ne cn (λe=>ag e.symm) rfl
  refine⟨⟨O.aj B (off (by decide) B),_,_,O.aj l.aj (off (by decide) l.aj)⟩,?_⟩;rw[bI (x:=(i:Int)+1) (by omega) (by omega)];refine⟨W.length-(i+1),by omega,i+1,ap,J,_,rfl,by omega,by rw[<-hlen];rfl,bh,?_⟩
  grind[uZ,List.take_add_one]
 ·have a8:i=W.length:=by omega
  subst a8;rw[ja]at s;rw[Ua];have D:=c.new d;refine aB (oq M (ag.new D) aX (ah.bH c).new (by omega) (by omega) s (by grind)) ?_;rintro v br ⟨dJ,dc,raw,rfl,a,bj,f,I⟩;have N:=a.aA;have a:eK A w0 u aI tb u.heap.size r m j V (fw j m W G) br:=eK.of a D bk;have f:gT A w0 raw (fw j m W G).done:=f;have I:(fw j m W G).ok=true->raw.length=(W.map (uZ j m)).length:=I;have a0:(fw j m W G).done.length<=W.length:=by
   cases S:(fw j m W G).ok with
   |true=>rw[<-f.1,I S,gR];omega
   |false=>
    have:(fw j m W G).done=[]:=by
     unfold fw bN cA at S ⊢
     grind
    grind
  refine⟨_,_,_,_,rfl,?_⟩;show cz prog _ _ _ _;rw[f.1];have w:av br b1 q.cells er:=N.aj (ai.aj d t) (by omega);have h:=(H.new c).new d;have X:fM br q.eN q.dZ W:=⟨h.rd.aA N (hv h.rd λk cu e=>by grind),h.len,h.ei,h.u64⟩;have bO:=a.aA.size;refine Oa a.eI w X fu bj f a0 _ _ (R:=E3 A w0 u aI tb r m j V W (fw j m W G)) λbB aW pc n Y bC=>?_
  obtain⟨b5,aH,bm,K⟩:=a.gz;refine⟨aW,pc,rfl,⟨a.aA.new n,a.eI.bH n,b5,aH.new n,bm,?_⟩,Y,λk bD=>by grind⟩;cases cm:(fw j m W G).ask with
  |none=>grind
  |some vs=>rw[cm]at K;obtain⟨ca,cQ,cb,cd,cj⟩:=K;exact⟨ca,cQ,cb,cd,cj.new n⟩
end
section
theorem Sv (h:∀ x ∈ L,cy x)(i:Nat):cy (L.getD i 0):=by
 grind[hL,List.mem_of_getElem?]
theorem PE (h:fL L lines=true)(hu:∀ x ∈ L,cy x):gk (c2 L lines).1 (c2 L lines).2 lines=0/\s4 (c2 L lines).2/\∀ p ∈ (c2 L lines).2,∀ x ∈ h7 p,cy x:=by
 have hw:=h;unfold fL at hw;simp only[gL,mL,beq_iff_eq]at hw;have j:c2 L lines=((L.drop 8).getD 0 0,hV (L.drop 8) ((L.drop 8).getD 1 0).toNat):=by
  unfold c2 eu
  grind
 have b:=hw.2;unfold eh at b;split at b
 ·omega
 split at b
 ·omega
 split at b
 ·omega
 split at b
 ·omega
 rename_i _ _ _ d;have d:gk ((L.drop 8).getD 0 0) (hV (L.drop 8) ((L.drop 8).getD 1 0).toNat) lines=0:=by omega
 rw[j];have e:∀ x ∈ L.drop 8,cy x:=λx c=>hu x (qM c)
 obtain⟨q,n,k,f,_⟩:=jA d;refine⟨d,⟨n.2.2.2,λp a=>⟨(f p a).1,(f p a).2,(k p a).1,by grind,Fq e _ p a⟩⟩,λp a x c=>?_⟩;obtain⟨i,_,rfl⟩:=cW.1 a;have l:∀ y ∈ ((L.drop 8).drop (2+9*i)).take 9,cy y:=λy o=>e y (qM (qN o))
 have g:=Sv l;have c:x ∈ [(((L.drop 8).drop (2+9*i)).take 9).getD 2 0,(((L.drop 8).drop (2+9*i)).take 9).getD 3 0,(((L.drop 8).drop (2+9*i)).take 9).getD 4 0,(((L.drop 8).drop (2+9*i)).take 9).getD 5 0,(((L.drop 8).drop (2+9*i)).take 9).getD 6 0,(((L.drop 8).drop (2+9*i)).take 9).getD 7 0,(((L.drop 8).drop (2+9*i)).take 9).getD 8 0]:=c;simp only[f0,lF,or_false]at c
 grind
theorem bP.three {bQ cl bw cq:an}{v1 v2 f:aG}{n p r:bc}(h:ai u bQ)(i:cT (λk=>k<u.heap.size) bQ v1 n)(d:ai bQ cl)(j:cT (λk=>k<bQ.heap.size) cl v2 p)(a:ai cl bw)(l:cT (λk=>k<cl.heap.size) bw f r)(z:b=bw.heap.size)(aq:av cq b (v1.cells++v2.cells++f.cells) cP)(g:ai bw cq):bP u cq (some ⟨b,0,none⟩) 3 3 [n,p,r]:=by
 have w:=h.size;have x:=d.size;have y:=a.size;have s:∀ k,aP (some ⟨b,0,none⟩) k->k=b:=λk q=>by
  obtain⟨o,A⟩:=q
  grind
 have t:(v1.cells++v2.cells++f.cells).length=27:=by grind[List.length_append,aG.len]
 refine⟨⟨[v1,v2,f],⟨by grind[dS],.inr ⟨b,v1.cells++v2.cells++f.cells,rfl,aq,db 3,by decide,t,?_⟩⟩,et.app (r1:=[v1]) (v1:=[n]) (et.one ?_) (et.app (r1:=[v2]) (v1:=[p]) (et.one ?_) (et.one ?_))⟩,rfl,λk q=>by grind⟩
 ·grind[List.take_of_length_le,dS]
 ·exact i.aA (ao.cm ((d.new a).new g)) λk c e=>by
   grind
 ·exact j.aA (ao.cm (a.new g)) λk c e=>by
   grind
 ·exact l.aA (ao.cm g) λk c e=>by
   grind
end
section
noncomputable abbrev jC:Func:=f247
def w6 (j:bL)(seq:Int)(W:List aN)(bj:aS):a_:=[mw j bj (fN j.dead) [0],mw j bj (fN j.dead+8) (fW seq W),mw j bj (fN j.dead) [gw seq]]
theorem nR {y a:an}{x:Int}(c:b=y.heap.size)(hw:a=y.alloc (.cells #[.int .u64 x] 30)):ai y a/\bl a (some ⟨b,0,none⟩) (us [x]):=by obtain⟨aq,d⟩:=bo (zs:=(us [x]).toArray) c hw;exact⟨d,fj aq rfl⟩
theorem Mx {z:an}{r:c_}{m:aS}{j:bL}{V:eU}{o:Int×Int}(a5:dv w0 z aI tb r m j V o){b1 L:Nat}{q:b7}{bj:aS}(ca:av z b1 q.cells er)(cb:av z L bj.cells eL)(b3:dU bj.cK){W:List aN}(b9:fM z q.eN q.dZ W)(bb:gk q.Seq W 256=0)(aH:∀ x ∈ fW q.Seq W,cy x)(aO:cy (gw q.Seq))(a':ai u z)
  {vs:a_} (bh:bP u z aW n pc vs) (cG:n<=1000) (O:ak) (S Q:Nat) (U X:Int) (aC:ax) {QX:Exit->ax->aJ}
  (Z:∀ ch ap C aC,bP u ch ap (n+3) C (vs++w6 j q.Seq W bj)->ai u ch->QX .normal (mi ⟨aI,0,none⟩ ⟨b1,0,none⟩ (gw q.Seq) ap (n+3) C O S Q U X aC) ch) :
  Go.bJ.W prog (sub (bu jC) [1,1,1,0,1,0,0,1,1,0,0,1,1]) (Bt ⟨aI,0,none⟩ ⟨b1,0,none⟩ (gw q.Seq) aW n pc ⟨L,0,none⟩ O S Q U X aC) (bO prog jC R QX) z:=by
 rw[UR];have a8:=a5.cg.dead;have cF:=a5.bp.dead;obtain⟨_,b_,b0,_⟩:=jA bb;refine⟨r.e7,a5.aj.cell (i:=5) rfl,?_⟩;rw[cF];refine aB (Ab z a8) ?_;rintro v cZ ⟨rfl,rfl⟩;refine⟨_,rfl,?_⟩;rintro ad bk;have A:ai cZ ad:=by rw[bk];exact cR _
 clear bk;have c9:∀ k,aP aW k->k<cZ.heap.size:=λk Z=>by obtain⟨bm,bx,_⟩:=bh.ex;exact bx.lt Z
 have da:=A.size;have dd:=a'.size;have p:∀ {y:an},ai ad y->av y L bj.cells eL/\av y b1 q.cells er/\jy r tb m j aI y:=λ{y} J=>⟨ai.aj (A.new J) cb,ai.aj (A.new J) ca,_,_,(a5.bH (A.new J)).aj⟩
 have wr:∀ {y:an} {K:Ending->aJ} {a:ak} {l c:Nat} {ws:a7} (at_:Int),ai ad y->bl y a (us ws)->l=ws.length->l<=c->(∀ x ∈ ws,cy x)->ws.length<=1000->ws≠[]->(∀ (bq:aG) t,ai y t->cT (λk=>k<y.heap.size) t bq (mw j bj at_ ws)->K (.returned bq.val) t)->Calls prog 250 #[ptr aI,bj.val,.int .i64 at_,.slice a l c] y K:=by
  intro y K a l c ws at_ J bz b0 b2 hu hw c7 a0
  refine aB (zb (a5.bH (A.new J)) b3 at_ bz b0 b2 (λe=>?_) hu (by omega)) ?_
  ·rcases bz with cB | ⟨dp,dq,cB,_⟩
   ·have:=ey List.length cB
    grind[iS,List.length_nil,List.eq_nil_of_length_eq_zero]
   grind
  grind
 have F:∀ {y:an} {K:Ending->aJ} {b:Nat} {x:Int},ai ad y->bl y (some ⟨b,0,none⟩) (us [x])->cy x->(∀ (bq:aG) t,ai y t->cT (λk=>k<y.heap.size) t bq (mw j bj (fN j.dead) [x])->K (.returned bq.val) t)->Calls prog 250 #[ptr aI,bj.val,.int .i64 (fN j.dead),.slice (some ⟨b,0,none⟩) 1 1] y K:=λJ bz hu a0=>wr _ J bz rfl (db 1) (λy D=>by grind) (by simp) (by simp) a0
 have ct:∀ {y:an} {K:Ending->aJ},ai ad y->(∀ (a:ak) (c:Nat) t,ai y t->bl t a (us (fW q.Seq W))->3+9*W.length<=c->K (.returned (.slice a (3+9*W.length) c)) t)->Calls prog 210 #[q.val] y K:=by intro y K J a0;refine aB (z2 (b9.new (A.new J)) bb ⟨b_.1,b_.2.1⟩ b_.2.2.2 b0) ?_;rintro v t ⟨a,c,rfl,b5,bx,_⟩;exact a0 a c t b5 bx.rd (aX.le bx)
 have lb:∀ {y:an} {K:Ending->aJ},K (.returned (.int .i64 (fN j.dead+8))) y->Calls prog 209 #[.int .i64 j.dead] y K:=by
  intro y K a0;refine aB (FA y a8) ?_
  grind
 have ae:=pq q.Seq W;have bne:fW q.Seq W≠[]:=λe=>by grind
 have fin:∀ {Y M bD bI bK br:an} {v1 v2 w:aG},ai ad Y->ai Y M->cT (λk=>k<Y.heap.size) M v1 (mw j bj (fN j.dead) [0])->ai M bD->ai bD bI->cT (λk=>k<bD.heap.size) bI v2 (mw j bj (fN j.dead+8) (fW q.Seq W))->ai bI bK->ai bK br->cT (λk=>k<bK.heap.size) br w (mw j bj (fN j.dead) [gw q.Seq])->∀ (aZ:Nat->ak->Nat->Nat->ax) (b:Nat) (y:an),b=br.heap.size->y=br.alloc (.cells #[.int .i64 v1.Kind,.int .i64 v1.Node,.int .i64 v1.cL,.int .i64 v1.N,.int .u64 v1.Old,.int .u64 v1.ai,.slice v1.Words v1.dh v1.c8,.int .u64 v1.Key,.int .i64 v1.cK,.int .i64 v2.Kind,.int .i64 v2.Node,.int .i64 v2.cL,.int .i64 v2.N,.int .u64 v2.Old,.int .u64 v2.ai,.slice v2.Words v2.dh v2.c8,.int .u64 v2.Key,.int .i64 v2.cK,.int .i64 w.Kind,.int .i64 w.Node,.int .i64 w.cL,.int .i64 w.N,.int .u64 w.Old,.int .u64 w.ai,.slice w.Words w.dh w.c8,.int .u64 w.Key,.int .i64 w.cK] cP)->
   (av y L bj.cells eL/\av y b1 q.cells er/\jy r tb m j aI y)/\∃ (ap:ak) (P ac:Nat),∃ t,(Builtin.append_ #[gZ,gZ] gZ #[(.slice aW n pc),(.slice (some ⟨b,0,none⟩) 3 3)]).run prog y=.ok (.slice ap P ac) t/\(av t L bj.cells eL/\av t b1 q.cells er/\jy r tb m j aI t)/\QX .normal (mi ⟨aI,0,none⟩ ⟨b1,0,none⟩ (gw q.Seq) ap P ac O S Q U X (aZ b ap P ac)) t:=by
  intro Y M bD bI bK br v1 v2 w na gn I nc nd af ne cI ag aZ b y h D;obtain⟨aq,J⟩:=bo h D;have aq:av y b (v1.cells++v2.cells++w.cells) cP:=aq;have s1:=na.size;have s2:=gn.size;have dr:=nc.size;have dt:=nd.size;have du:=ne.size;have de:=bP.three gn I (nc.new nd) (af.mono λk Z=>by omega) (ne.new cI) (ag.mono λk Z=>by omega) h aq J;have E:ai ad y:=((((na.new gn).new nc).new nd).new ne).new (cI.new J);refine⟨p E,?_⟩;have al:=bh.new (A.new E);obtain⟨bm,ba,_⟩:=al.ex;have off:∀ {b:Nat} {cs:ax} {T:bY},T≠cP->av y b cs T->¬ aP aW b:=λc5 h Z=>by obtain⟨c3,bV⟩:=gN ba Z;exact bV.ne h (λe=>c5 e.symm) rfl
  obtain⟨cu,cz,cr,cQ,cA⟩:=p E;refine bP.vg al (a'.new (A.new E)) de (λk Z=>by grind) (by omega) (by omega) λap C t c4 ah b8=>⟨⟨ah.aj cu (off (by decide) cu),ah.aj cz (off (by decide) cz),cr,cQ,ah.aj cA (off (by decide) cA)⟩,Z t ap C _ c4 b8⟩
 have rest:∀ {Y M:an} {v1:aG} {bT:Nat} {aZ:aG->aG->Nat->ak->Nat->Nat->ak->Nat->Nat->ax},ai ad Y->ai Y M->cT (λk=>k<Y.heap.size) M v1 (mw j bj (fN j.dead) [0])->bl M (some ⟨bT,0,none⟩) (us [gw q.Seq])->Calls prog 210 #[q.val] M λe cS=>∃ (b:ak) (ae bN:Nat),e=.returned (.slice b ae bN)/\(λy=>av y L bj.cells eL/\av y b1 q.cells er/\jy r tb m j aI y) cS/\Calls prog 250 #[ptr aI,bj.val,.int .i64 (fN j.dead+8),.slice b ae bN] cS λe cU=>aG.ex λG=>e=.returned G.val/\(λy=>av y L bj.cells eL/\av y b1 q.cells er/\jy r tb m j aI y) cU/\Calls prog 250 #[ptr aI,bj.val,.int .i64 (fN j.dead),.slice (some ⟨bT,0,none⟩) 1 1] cU λe cn=>aG.ex λH=>e=.returned H.val/\(λy=>av y L bj.cells eL/\av y b1 q.cells er/\jy r tb m j aI y) cn/\∀ bM aQ,bM=cn.heap.size->aQ=cn.alloc (.cells #[.int .i64 v1.Kind,.int .i64 v1.Node,.int .i64 v1.cL,.int .i64 v1.N,.int .u64 v1.Old,.int .u64 v1.ai,.slice v1.Words v1.dh v1.c8,.int .u64 v1.Key,.int .i64 v1.cK,.int .i64 G.Kind,.int .i64 G.Node,.int .i64 G.cL,.int .i64 G.N,.int .u64 G.Old,.int .u64 G.ai,.slice G.Words G.dh G.c8,.int .u64 G.Key,.int .i64 G.cK,.int .i64 H.Kind,.int .i64 H.Node,.int .i64 H.cL,.int .i64 H.N,.int .u64 H.Old,.int .u64 H.ai,.slice H.Words H.dh H.c8,.int .u64 H.Key,.int .i64 H.cK] cP)->(λy=>av y L bj.cells eL/\av y b1 q.cells er/\jy r tb m j aI y) aQ/\∃ (ap:ak) (P ac:Nat),∃ aR,(Builtin.append_ #[gZ,gZ] gZ #[(.slice aW n pc),(.slice (some ⟨bM,0,none⟩) 3 3)]).run prog aQ=.ok (.slice ap P ac) aR/\(λy=>av y L bj.cells eL/\av y b1 q.cells er/\jy r tb m j aI y) aR/\QX .normal (mi ⟨aI,0,none⟩ ⟨b1,0,none⟩ (gw q.Seq) ap P ac O S Q U X (aZ G H bM ap P ac b ae bN)) aR
  :=by
  intro Y M v1 bT aZ na gn I dm;refine ct (na.new gn) λa c cW s bA lc=>⟨_,_,_,rfl,p ((na.new gn).new s),?_⟩
  refine wr (fN j.dead+8) ((na.new gn).new s) bA ae.symm lc aH (by omega) bne λv2 cY B af=>aG.aV v2 ⟨rfl,p (((na.new gn).new s).new B),?_⟩
  refine F (((na.new gn).new s).new B) (dm.new (s.new B)) aO λw cp ab ag=>aG.aV w ⟨rfl,p ((((na.new gn).new s).new B).new ab),?_⟩
  exact fin na gn I s B af (ao.refl _ _) ab ag _
 refine⟨λy=>av y L bj.cells eL/\av y b1 q.cells er/\jy r tb m j aI y,p (ao.refl _ _),aS.aV bj ⟨λy D=>bX D.1 rfl,aS.aV bj ⟨λy D=>bX D.1 rfl,r.e7,λy D=>by obtain⟨_,_,cr,cQ,D⟩:=D;exact D.cell (i:=5) rfl,b7.aV q ⟨λy D=>bX D.2.1 rfl,aS.aV bj ⟨λy D=>bX D.1 rfl,?_⟩⟩⟩⟩⟩;rw[cF];refine⟨λc2 dx h hw=>?_,λdn cp h hw=>?_⟩
 ·obtain⟨d,r1⟩:=nR h hw;clear h hw;refine⟨p d,F d r1 hL λv1 cV f I=>aG.aV v1 ⟨rfl,p (d.new f),?_,?_⟩,λb cV h hw=>?_⟩
  ·refine lb ⟨_,rfl,p (d.new f),?_,?_⟩
   ·refine ct (d.new f) λa c bC g bA lc=>⟨_,_,_,rfl,p ((d.new f).new g),?_,?_⟩
    ·refine wr (fN j.dead+8) ((d.new f).new g) bA ae.symm lc aH (by omega) bne λv2 cW s af=>aG.aV v2 ⟨rfl,p (((d.new f).new g).new s),λb cY h hw=>?_⟩
     obtain⟨B,di⟩:=nR h hw;clear h hw;refine⟨p ((((d.new f).new g).new s).new B),F ((((d.new f).new g).new s).new B) di aO λw cp ab ag=>aG.aV w ⟨rfl,p (((((d.new f).new g).new s).new B).new ab),?_⟩⟩;exact fin d f I g s af B ab ag (λb ap P ac=>_)
    ·intro b cW h hw;obtain⟨s,dg⟩:=nR h hw;clear h hw;refine⟨p (((d.new f).new g).new s),wr (fN j.dead+8) (((d.new f).new g).new s) (bA.new s) ae.symm lc aH (by omega) bne λv2 cY B af=>aG.aV v2 ⟨rfl,p ((((d.new f).new g).new s).new B),?_⟩⟩;refine F ((((d.new f).new g).new s).new B) (dg.new B) aO λw cp ab ag=>aG.aV w ⟨rfl,p (((((d.new f).new g).new s).new B).new ab),?_⟩
     exact fin d f I (g.new s) B af (ao.refl _ _) ab ag (λb ap P ac=>_)
   ·intro b bC h hw;obtain⟨g,cj⟩:=nR h hw;clear h hw;exact⟨p ((d.new f).new g),rest d (f.new g) (I.aA (ao.cm g) λ_ _ e=>e) cj⟩
  ·intro b bC h hw;obtain⟨g,cj⟩:=nR h hw;clear h hw;exact⟨p ((d.new f).new g),lb ⟨_,rfl,p ((d.new f).new g),rest d (f.new g) (I.aA (ao.cm g) λ_ _ e=>e) cj⟩⟩
  ·obtain⟨f,cd⟩:=nR h hw;clear h hw;refine⟨p (d.new f),F (d.new f) (r1.new f) hL λv1 bC g I=>aG.aV v1 ⟨rfl,p ((d.new f).new g),lb ⟨_,rfl,p ((d.new f).new g),?_⟩⟩⟩;exact rest (d.new f) g I (cd.new g)
 ·obtain⟨d,r1⟩:=nR h hw;clear h hw;refine⟨p d,λb cV h hw=>?_⟩;obtain⟨f,cd⟩:=nR h hw;clear h hw;refine⟨p (d.new f),F (d.new f) cd hL λv1 bC g I=>aG.aV v1 ⟨rfl,p ((d.new f).new g),lb ⟨_,rfl,p ((d.new f).new g),?_⟩⟩⟩;exact rest (d.new f) g I ((r1.new f).new g)
end
section
def q3 (j:bL)(seq:Int)(W:List aN)(L:a7):Bool:=hf L j.lines && xC (seq,W) (f_ L j.lines)
def r2 (j:bL)(seq:Int)(W:List aN)(Ls:eE)(i:Nat):a_:=if q3 j seq W (Ls.getD i [])=true then[]else w6 j seq W (j.v.mem.getD i kk)
def l4 (j:bL)(seq:Int)(W:List aN)(Ls:eE)(n:Nat):a_:=((List.range n).map (r2 j seq W Ls)).flatten
def kE (j:bL)(seq:Int)(W:List aN)(Ls:eE)(G:a3):cd:=bN G (l4 j seq W Ls j.v.mem.length)
theorem zd (j:bL)(seq:Int)(W:List aN)(Ls:eE)(n:Nat):l4 j seq W Ls (n+1)=l4 j seq W Ls n++r2 j seq W Ls n:=by
 grind[l4,List.range_succ]
theorem w7 {w':an}{W:List aN}(h:fM w a n W){M:a4}(c:ao M w w')(b:∀ k,aP a k->¬ M k):fM w' a n W:=⟨h.rd.aA c (hv h.rd b),h.len,h.ei,h.u64⟩
abbrev Ju (R:cM)(N:ax->aJ)(Q:Exit->ax->aJ):Exit->ax->aJ:=aO 1 (aZ (λenv w=>Go.bJ.W prog (sub (bu jC) [1,1,1,0,1,0,0,1,1,1]) env (bO prog jC R (aZ N Q)) w) (bO prog jC R (aZ N Q)))
abbrev Jt (R:cM)(N:ax->aJ)(Q:Exit->ax->aJ):Exit->ax->aJ:=bO prog jC R (aZ (λenv w=>Go.bJ.W prog (sub (bu jC) [1,1,1,0,1,0,0,1,1,0,0,1,1]) env (Ju R N Q) w) (Ju R N Q))
theorem PF {r:c_}{m:aS}{j:bL}{V:eU}{T:eM}{G:a3}(aH:dv w0 u aI tb r m j V (0,0))(ct:eV A w0 u tb T G)(bV:gF T)(cV:lI w0 u aI tb V Ls)(cP:Ls.length=j.v.mem.length){q:b7}{W:List aN}(a8:fM u q.eN q.dZ W)(bk:gk q.Seq W 256=0)(cb:∀ x ∈ fW q.Seq W,cy x) :
  a5 247 [ptr aI,q.val] u (lX A w0 u aI tb r m j V (kE j q.Seq W Ls G)):=by
 refine ba Tryz.func247 ?_;rw[ptr,VZ];generalize bK:lX A w0 u aI tb r m j V (kE j q.Seq W Ls G)=M;obtain⟨⟨cm,ca,b_,c4,aQ⟩,cz⟩:=cV;have cA:=aH.aj.lt;have cF:=ct.aj.lt;have cU:=aH.cg.mem;have Q:=aH.bp.lines;obtain⟨_,bl,_⟩:=jA bk;obtain⟨de,I⟩:=aH.bp.view;have hlen:=I.len;rintro b1 w1 bN bq;obtain⟨K,B⟩:=bo bN bq;have K:av w1 b1 q.cells er:=K;clear bq;have b8:=B.size;have O:=aH.bH B;refine⟨_,K.cell (i:=0) rfl,?_⟩;refine aB (AL w1 ⟨bl.1,bl.2.1⟩) ?_;rintro v aO ⟨rfl,rfl⟩;refine⟨_,_,rfl,_,_,_,O.aj.cell (i:=4) rfl,?_⟩;refine cZ mix (λk env z=>∃ (i n:Nat) (aW:ak) (pc:Nat) (aC:ax),k=j.v.mem.length-i/\i<=j.v.mem.length/\n<=3*i/\env=vi ⟨aI,0,none⟩ ⟨b1,0,none⟩ (gw q.Seq) aW n pc r.View.f7 r.View.fq r.View.gB r.View.fq i aC/\ai aO z/\bP aO z aW n pc (l4 j q.Seq W Ls i)) j.v.mem.length
  ⟨0,0,none,0,_,by omega,by omega,by omega,rfl,ao.refl _ _,bP.nil _ _⟩ ?_
 rintro k env z ⟨i,n,aW,pc,aC,rfl,di,cY,rfl,l,S⟩;have ae:=O.bH l;have aR:=ae.new;refine hG (fn:=jC) (R:=M) (λ_ _=>rfl) ?_;rw[TW,hlen];refine bb (λaf=>?_) (λcT=>?_)
 ·obtain⟨bj,hm⟩:∃ bj,j.v.mem[i]?=some bj:=⟨_,b2 (by omega)⟩;obtain⟨s,cB⟩:∃ s,cm[i]?=some s:=⟨_,b2 (by omega)⟩;obtain⟨L,cI⟩:∃ L,Ls[i]?=some L:=⟨_,b2 (by omega)⟩;have aP:=aQ i s L cB cI;have cW:=aH.cg.eX bj (b9 hm);have dg:Ls.getD i []=L:=by grind
  have em:j.v.mem.getD i kk=bj:=by grind
  refine eQ (cells:=aS.cells) aS.len (by omega) (I.rd.new aR) hm rfl rfl λb c9 bT _=>aS.aV bj ⟨bT,?_⟩
  refine io (vs:=bj.cells) rfl (aS.single _) λcp da cQ cd F=>?_
  obtain ⟨a6,bD⟩:∃ a6:ax->aJ,∀ env w,a6 env w=(∃ cG,cG<j.v.mem.length - i/\∃ (bz n:Nat) (aW:ak) (pc:Nat) (aC:ax),cG=j.v.mem.length - bz/\bz<=j.v.mem.length/\n<=3 * bz/\env=vi ⟨aI,0,none⟩ ⟨b1,0,none⟩ (gw q.Seq) aW n pc r.View.f7 r.View.fq r.View.gB r.View.fq bz aC/\ai aO w/\bP aO w aW n pc (l4 j q.Seq W Ls bz)):=⟨_,λ_ _=>rfl⟩;have bA:∀ {ch:an} {U:ak} {n' X:Nat} (aC:ax),n'<=3 * (i+1)->ai aO ch->bP aO ch U n' X (l4 j q.Seq W Ls (i+1))->∀ {N:ax->aJ} {jR:Exit->ax->aJ},(∀ env w,a6 env w->N env w)->
    Go.bJ.W prog (sub (bu jC) [1,1,1,0,1,0,0,1,1,1]) (mi ⟨aI,0,none⟩ ⟨b1,0,none⟩ (gw q.Seq) U n' X r.View.f7 j.v.mem.length r.View.gB (j.v.mem.length:Nat) i aC) (bO prog jC M (aZ N jR)) ch:=by
   intro ch U n' X aC ag aX bm N jR Z;rw[UQ,bI (x:=(i:Int)+1) (by omega) (by omega)];exact fa (Z _ _ ((bD _ _).mpr ⟨j.v.mem.length-(i+1),by omega,i+1,n',U,X,_,rfl,by omega,ag,by rw[hlen];rfl,aX,bm⟩))
  rw[TX];refine hG (fn:=jC) (R:=M) (λ_ _=>rfl) ?_;rw[UM];rintro bC br;have C:ai da bC:=by rw[br];exact cR _
  clear br;have E:=l.new (F.new C);have P:=O.bH E;refine⟨λy=>ai bC y,ao.refl _ _,_,_,_,λy bx=>(ai.aj bx P.aj).cell (i:=13) rfl,?_⟩;refine lg (cells:=nx) (sz:=1) (λ_=>rfl) (by decide) (ca.new (B.new E)) cB rfl b_ λb' c9 b0=>⟨s.a,s.n,s.c,λy bx=>by simpa using b0 y bx 0 _ rfl,r.hP,λy bx=>(ai.aj bx P.aj).cell (i:=2) rfl,?_⟩
  rw[Q];have ah:l4 j q.Seq W Ls (i+1)=l4 j q.Seq W Ls i++(if q3 j q.Seq W L=true then[]else w6 j q.Seq W bj):=by
   grind[zd,r2]
  have f4:∀ {y:an} (t:Bool),t=q3 j q.Seq W L->ai bC y->∀ (aC:ax) {N:ax->aJ} {jR:Exit->ax->aJ},(∀ env w,a6 env w->N env w)->(∀ env w,jR .ret env w=dE prog jC M .ret env w)->
    Go.bJ.W prog (sub (bu jC) [1,1,1,0,1,0,0,1,1,0,0,1,0,1,1]) (xR ⟨aI,0,none⟩ ⟨b1,0,none⟩ (gw q.Seq) aW n pc ⟨cp,0,none⟩ r.View.f7 j.v.mem.length r.View.gB (j.v.mem.length:Nat) i t aC) (Jt M N jR) y:=by
   intro y t dn g aC N jR Z ab;rw[UP];have cu:=E.new g;refine gW (λbM=>?_) (λbM=>?_)
   ·refine qQ (qq (fa (bA _ (by omega) (l.new ((F.new C).new g)) ?_ Z)));rw[ah,bh (by grind),kV];exact S.new ((F.new C).new g)
   ·refine fa (hG (fn:=jC) (R:=M) (λ_ _=>rfl) ?_);have d:=(F.new C).new g;refine Mx (ae.bH d) (ai.aj (l.new d) K) (ai.aj (C.new g) cd) (by grind[dU]) ((a8.new B).new (l.new d)) bk cb (Aa _) (l.new d) (S.new d) (by omega) _ _ _ _ _ _ λch ap cr c7 c5 ag=>?_
    refine rY (fa (bA _ (by omega) ag ?_ Z))
    grind
  have f3:∀ {y:an} {Y:Nat} {pb:ak} {aY:Nat},av y Y (b7.cells ⟨(f_ L j.lines).1,pb,(f_ L j.lines).2.length,aY⟩) er->ai bC y->fM y pb (f_ L j.lines).2.length (f_ L j.lines).2->∀ (aC:ax) {N:ax->aJ} {jR:Exit->ax->aJ},(∀ env w,a6 env w->N env w)->(∀ env w,jR .ret env w=dE prog jC M .ret env w)->
    Go.bJ.W prog (sub (bu jC) [1,1,1,0,1,0,0,1,1,0,0,1,0,1]) (xQ ⟨aI,0,none⟩ ⟨b1,0,none⟩ (gw q.Seq) aW n pc ⟨cp,0,none⟩ ⟨Y,0,none⟩ (hf L j.lines) r.View.f7 j.v.mem.length r.View.gB (j.v.mem.length:Nat) i aC) (Jt M N jR) y:=by
   intro y Y pb aY cj g a' aC N jR Z ab;rw[TY];refine hG (fn:=jC) (R:=M) (λ_ _=>rfl) ?_;rw[UO];have d:=l.new ((F.new C).new g);refine gW (λbM=>?_) (λbM=>?_)
   ·refine b7.aV q ⟨bX (ai.aj d K) rfl,b7.aV _ ⟨bX cj rfl,?_⟩⟩;refine aB (Ru ((a8.new B).new d) a') ?_;rintro v dq ⟨rfl,f⟩;refine⟨_,rfl,fa (f4 _ ?_ (g.new f) _ Z ab)⟩
    grind[q3]
   ·refine fa (f4 _ ?_ g _ Z ab)
    grind[q3]
  refine⟨?_,?_⟩
  ·refine aB (Cb j.lines (aP.new P.new)) ?_;rintro v db ⟨pb,aY,rfl,o,H,a0⟩;refine b7.aV ⟨(f_ L j.lines).1,pb,(f_ L j.lines).2.length,aY⟩ ⟨_,rfl,o,?_⟩;rintro Y cn ad J;obtain⟨p,f⟩:=bo ad J;have p:av cn Y js.cells er:=p;clear J;refine⟨o.new f,dY (vs:=b7.cells ⟨(f_ L j.lines).1,pb,(f_ L j.lines).2.length,aY⟩) p rfl (b7.single _) λdd aG D=>?_⟩;have c2:=o.size;exact f3 aG ((o.new f).trans D λk af e=>by omega) (H.new (f.trans D λk af e=>by omega)) _ (λenv w h=>by rw[bD,hlen]at h;exact h) λ_ _=>rfl
  ·rintro Y cn ad J;obtain⟨p,f⟩:=bo ad J;have p:av cn Y js.cells er:=p;clear J;refine⟨f,aB (Cb j.lines (aP.new (P.bH f).new)) ?_⟩;rintro v db ⟨pb,aY,rfl,o,H,a0⟩;have c3:=f.size;have cS:=p.lt;refine b7.aV ⟨(f_ L j.lines).1,pb,(f_ L j.lines).2.length,aY⟩ ⟨_,rfl,f.new o,dY (vs:=b7.cells ⟨(f_ L j.lines).1,pb,(f_ L j.lines).2.length,aY⟩) (ai.aj o p) rfl (b7.single _) λdd aG D=>?_⟩;exact f3 aG ((f.new o).trans D λk af e=>by omega) (w7 H D λk dm e=>by grind) _ (λenv w h=>by rw[bD,hlen]at h;exact h) λ_ _=>rfl
 ·have b3:i=j.v.mem.length:=by omega
  subst b3;refine qQ (qq (fa ?_));refine hG (fn:=jC) (R:=M) (λ_ _=>rfl) ?_;rw[UN];refine aB (oq ae (ct.new (B.new l)) bV O.new (by omega) (by omega) S (by rw[<-S.len];omega)) ?_;rintro v dp ⟨dJ,dc,raw,rfl,b5,_⟩;rw[<-bK];exact⟨_,_,_,_,rfl,rfl,b5.of (B.new l) b8⟩
end
section
noncomputable abbrev tg:Func:=f227
def vX (j:bL)(seq:Int)(bj:aS):bc:=mw j bj (32+j.dead) [seq]
def mV (j:bL)(seq:Int)(l:List aN)(bj:aS):a_:=l.map (qn j bj)++[vX j seq bj]
def nM (j:bL)(seq:Int)(l:List aN):a_:=(j.v.mem.tail.map (mV j seq l)).flatten
def rb (j:bL)(m:aS)(seq:Int)(l:List aN):a_:=vX j seq m::l.map (qn j m)
def od (j:bL)(m:aS)(seq:Int)(l:List aN)(B:cd):cd:=if B.ok=false then B else bN B.a2 (rb j m seq l)
def nf (j:bL)(m:aS)(seq:Int)(W:List aN)(P:cd):cd:=
 if P.ok=false then P else if(gx j W P.done P.done.length).length=0 then P else od j m seq (gx j W P.done P.done.length) (bN P.a2 (nM j seq (gx j W P.done P.done.length)))
def mx (j:bL)(m:aS)(seq:Int)(W:List aN)(Ls:eE)(G:a3):cd:=
 if(kE j seq W Ls G).ok=false then kE j seq W Ls G else nf j m seq W (fw j m W (kE j seq W Ls G).a2)
theorem DN {j:bL}{W:List aN}{ds:ck}(h:n<=W.length):∀ p ∈ gx j W ds n,p ∈ W:=by
 intro p a;unfold gx at a;obtain⟨l,c,b⟩:=qL.1 a
 grind[pK,List.getElem?_eq_getElem,List.getElem_mem]
theorem Sw (G:a3)(vs:a_):(bN G vs).done.length<=vs.length:=by
 grind[bN,cA,rQ]
theorem PG {j:bL}{m:aS}{W:List aN}{G:a3}:(fw j m W G).done.length<=W.length:=by have:=Sw G (W.map (uZ j m));rwa [gR]at this
structure rh (l:List aN):Prop where
 wr:s4 l
 mm:∀ p ∈ l,∀ x ∈ h7 p,cy x
theorem rh.sub {W l:List aN}(h:rh W)(hm:∀ p ∈ l,p ∈ W)(b:l.length<=W.length):rh l:=⟨⟨by have:=h.wr.ei;omega,λp a=>h.wr.ok p (hm p a)⟩,λp a=>h.mm p (hm p a)⟩
section
variable {A:a4}{w0 u:an}{aI tb:Nat}{r:c_}{m:aS}{j:bL}{V:eU}{T:eM}{G:a3}
theorem PH (bI:dv w0 u aI tb r m j V (0,0))(b8:eV A w0 u tb T G)(ba:gF T){w1:an}(br:ai w0 w1)(ab:tb<w1.heap.size)(X:aI<w1.heap.size)(aZ:ai w1 u){vs:a_}(bq:bP w1 u aW n pc vs)(bK:vs.length<=1000){l:List aN}(bb:fM u la l.length l)(b9:∀ k,aP la k->k≠tb/\k≠aI)(O:rh l)(cr:cy seq)(aC:ax)
  (bD:∀ S v bB,S=od j m seq l (bN G vs)->v=.bool S.ok->eK A w0 u aI tb w1.heap.size r m j V S bB->R v bB) :
  Go.bJ.W prog (sub (bu tg) [1,1,1,1,1,1,1,1]) (BB ⟨aI,0,none⟩ la l.length lc (32+j.dead) seq aW n pc aC) (dE prog tg R) u:=by
 rw[US];have N:=bI.eX;refine aB (oq bI b8 ba br ab X bq (by omega)) ?_;rintro v bQ ⟨dJ,dc,raw,rfl,w,_⟩;have w:eK A w0 u aI tb w1.heap.size r m j V (bN G vs) bQ:=w;refine⟨_,_,_,_,rfl,eF (λaH=>?_) (λbl=>?_)⟩
 ·have aH:(bN G vs).ok=false:=aH;exact bD (bN G vs) _ _ (bh aH).symm (by rw[aH]) w
 have bl:(bN G vs).ok=true:=bl;obtain⟨aO,H,bz⟩:=pr bl;have b7:od j m seq l (bN G vs)=bN (bN G vs).a2 (rb j m seq l):=aQ (by grind);have Z:=w.eI;rw[aO]at Z;obtain⟨cP,a0,C,L⟩:=w.gz;rw[H]at L;rw[bz]at C;have U:fM bQ la l.length l:=w7 bb w.aA λk H e=>by grind
 rintro z aq;have h:ai bQ z:=by rw[aq];exact cR _
 clear aq;have f:=Z.bH h;have J:=a0.new h;have bk:=U.new h;have cu:=h.size;have ca:=w.aA.size;have ad:=J.aj.lt;have Y:=f.aj.lt;have ct:=aZ.size;have q:∀ {y:an},ai z y->jy r tb m j aI y:=λcj=>⟨_,_,(f.bH cj).aj⟩
 refine⟨jy r tb m j aI,q (ao.refl _ _),aS.aV m ⟨λy D=>by obtain⟨b2,cA,D⟩:=D;exact bX D rfl,aS.aV m ⟨λy D=>by obtain⟨b2,cA,D⟩:=D;exact bX D rfl,?_⟩⟩⟩;rintro b1 cG a5 ah;obtain⟨aR,r1⟩:=nR a5 ah;clear ah;refine⟨q aR,?_⟩;refine aB (zb (f.bH aR) N (32+j.dead) r1 rfl (db 1) (λe=>by cases e) (λx cU=>by grind) (show 1<=1000000 by decide)) ?_;rintro v cI ⟨bV,rfl,p,cz⟩;have d:=aR.new cz;have cp:=aR.size;have p:cT (λk=>k<cG.heap.size) cI bV (vX j seq m):=p;have last:∀ {y:an} {ap:ak} {ac nn:Nat},ai z y->nn=1+l.length->bP z y ap nn ac (rb j m seq l)->Calls prog 221 #[ptr aI,.slice ap nn ac] y λe b0=>∃ (s:ak) (cB sc:Nat) (b:Bool),e=.returned (.tuple #[.slice s cB sc,.bool b])/\jy r tb m j aI b0/\R (.bool b) b0:=by intro y ap ac nn g cn af;have cd:=O.wr.ei;refine aB (oq (f.bH g) (J.new g) ⟨L,C⟩ f.new ad Y af (by rw[<-af.len];omega)) ?_;rintro v cV ⟨dJ,dc,raw,rfl,Q,_⟩;refine⟨_,_,_,_,rfl,⟨_,_,Q.eI.aj⟩,bD _ _ _ b7.symm rfl ?_⟩;exact eK.seq w.aA (h.new g) Q (by omega)
 have av:∀ {y:an} {K:Ending->aJ},ai z y->(∀ (a:ak) (c:Nat) bC,ai y bC->bP y bC a l.length c (l.map (qn j m))->K (.returned (.slice a l.length c)) bC)->Calls prog 249 #[ptr aI,m.val,.slice la l.length lc] y K:=by
  intro y K g cS;refine aB (DM (f.bH g) N (bk.new g) O.wr O.mm) ?_
  grind
 refine aG.aV bV ⟨rfl,q d,?_,?_⟩
 ·rintro cQ cW a8 bx;obtain⟨B,E⟩:=bP.box d (p.mono λk H=>by omega) a8 bx;have i:=d.new E;refine⟨q i,av i λa c cY F bm=>⟨_,_,_,rfl,q (i.new F),?_⟩⟩;refine bP.vg (B.new F) (i.new F) bm (λk H=>by obtain⟨bT,aO,_⟩:=B.ex;exact aO.lt H) i.size (by have:=O.wr.ei;omega) λap I cZ b5 b_ P=>⟨q P,last P rfl b5⟩
 ·refine av d λa c c2 E bo=>⟨_,_,_,rfl,q (d.new E),?_⟩
  rintro b3 bA a' ag;obtain⟨ae,F⟩:=bP.box (d.new E) ((p.aA (ao.cm E) λ_ _ e=>e).mono λk H=>by omega) a' ag;have bO:=d.size;have bj:kZ (λk=>k<z.heap.size\/aP (some ⟨b3,0,none⟩) k) bA a l.length (l.map (qn j m)):=(bo.ia (M:=λk=>k<z.heap.size) λk _ e=>by omega).wide F λk cb e=>by
   rcases e with e | ⟨o,aO⟩
   ·exact e
   grind
  refine⟨q ((d.new E).new F),bP.HG ae ((d.new E).new F) bj (by have:=O.wr.ei;omega) λap I cF aX bM t=>⟨q t,last t rfl aX⟩⟩
theorem PI (s:dv w0 u aI tb r m j V (0,0))(ba:eV A w0 u tb T G)(Z:gF T){P:ak}{a5:Nat}(X:bl u P (g3 j.v.mem.tail).flatten){l:List aN}(F:fM u la l.length l)(ab:∀ k,aP la k->k≠tb/\k≠aI)(N:rh l)(aQ:cy seq)(aC:ax)
  (bx:∀ S v bB,S=od j m seq l (bN G (nM j seq l))->v=.bool S.ok->eK A w0 u aI tb u.heap.size r m j V S bB->R v bB) :
  cz prog (.loop (sub (bu tg) [1,1,1,1,1,1,1,0,1,0,0])) (vj ⟨aI,0,none⟩ la l.length lc (32+j.dead) seq none 0 0 P (j.v.mem.length-1) a5 ((j.v.mem.length-1:Nat):Int) 0 aC)
   (aO 0 (aZ (λenv w=>Go.bJ.W prog (sub (bu tg) [1,1,1,1,1,1,1,1]) env (dE prog tg R) w) (dE prog tg R))) u:=by
 have bD:=s.cg.mem;have bT:=N.wr.ei;have H:=s.aj.lt;have I:=ba.aj.lt;have b7:j.v.mem.tail.length=j.v.mem.length-1:=zx;have f:∀ i,((j.v.mem.tail.take i).map (mV j seq l)).flatten.length<=60+5:=by
  intro i;have bq:=Ac (b:=l.length+1) ((j.v.mem.tail.take i).map (mV j seq l)) λx b8=>by
   grind[mV]
  rw[gR,lE]at bq;have cr:min i j.v.mem.tail.length*(l.length+1)<=5*13:=wm (by omega) (by omega);omega
 refine cZ mix (λq env z=>∃ (i n:Nat) (aW:ak) (pc:Nat) (aC:ax),q=j.v.mem.tail.length-i/\i<=j.v.mem.tail.length/\env=vj ⟨aI,0,none⟩ la l.length lc (32+j.dead) seq aW n pc P (j.v.mem.length-1) a5 ((j.v.mem.length-1:Nat):Int) i aC/\ai u z/\bP u z aW n pc (((j.v.mem.tail.take i).map (mV j seq l)).flatten)) j.v.mem.tail.length
  ⟨0,0,none,0,_,rfl,by omega,rfl,ao.refl _ _,bP.nil _ _⟩ ?_
 rintro q env z ⟨i,n,aW,pc,aC,rfl,ct,rfl,a,c⟩;rw[TZ];have B:=s.bH a;have b5:=a.size;have aR:=c.len;have af:=f i;refine bb (λbO=>?_) (λbC=>?_)
 ·obtain⟨bj,hm⟩:∃ bj,j.v.mem.tail[i]?=some bj:=⟨_,b2 (by omega)⟩;have bV:=s.cg.eX bj (uw (b9 hm));have y:dU bj.cK:=by grind[dU]
  have bo:((j.v.mem.tail.take (i+1)).map (mV j seq l)).flatten=((j.v.mem.tail.take i).map (mV j seq l)).flatten++mV j seq l bj:=by
   grind[List.take_add_one]
  refine eQ (cells:=aS.cells) aS.len (by omega) (X.new a) hm rfl (by omega) λb o Y _=>aS.aV bj ⟨Y,?_⟩
  refine io (vs:=bj.cells) rfl (aS.single _) λbk ca bA K d=>aS.aV bj ⟨bX K rfl,?_⟩
  have b3:=d.size;rw[bI (x:=(i:Int)+1) (by omega) (by omega)];refine aB (DM (B.bH d) y ((F.new a).new d) N.wr N.mm) ?_;rintro v cu ⟨cp,gc,rfl,g,aX⟩;refine⟨_,_,_,rfl,?_⟩;have E:∀ k,aP aW k->k<ca.heap.size:=λk bK=>by obtain⟨M,aH,_⟩:=c.ex;have:=aH.lt bK;omega
  refine bP.vg ((c.new d).new g) ((a.new d).new g) aX E (by omega) (by omega) λap a8 cb br ae D=>?_
  have C:=s.bH D;have L:av cb bk bj.cells eL:=ae.aj (ai.aj g K) λe=>by obtain⟨M,aH,_⟩:=c.ex;have:=aH.lt e;omega
  refine aS.aV bj ⟨bX L rfl,?_⟩;rintro cn cd U J;obtain⟨h,b_⟩:=nR U J;clear J;refine aB (zb (C.bH h) y (32+j.dead) b_ rfl (db 1) (λe=>by cases e) (λx b8=>by grind) (show 1<=1000000 by decide)) ?_;rintro v cj ⟨bh,rfl,p,ag⟩;have p:cT (λk=>k<cd.heap.size) cj bh (vX j seq bj):=p;refine aG.aV bh ⟨rfl,?_⟩;rintro cm cA Q a0;refine bP.mC (br.new h) (D.new h) ag p (by omega) Q a0 λO t cB a' bM ah=>?_
  have bm:((j.v.mem.tail.take i).map (mV j seq l)).flatten++l.map (qn j bj)++[vX j seq bj]=((j.v.mem.tail.take (i+1)).map (mV j seq l)).flatten:=by
   grind[mV,List.append_assoc]
  rw[bm]at a';exact⟨j.v.mem.tail.length-(i+1),by omega,i+1,_,O,t,_,rfl,by omega,rfl,ah,a'⟩
 ·have ad:i=j.v.mem.tail.length:=by omega
  subst ad;rw[ja]at c aR af;refine PH B (ba.new a) Z s.new I H a c (by omega) (F.new a) ab N aQ _ λS v bB bz al b0=>bx S v bB bz al ?_
  exact b0.of a (db _)
theorem Ma (M:dv w0 u aI tb r m j V (0,0))(bK:eV A w0 u tb T G)(bk:gF T)(bq:lI w0 u aI tb V Ls)(a0:Ls.length=j.v.mem.length){q:b7}{W:List aN}(ab:fM u q.eN q.dZ W)(I:∀ k,aP q.eN k->k≠tb/\k≠aI)(ag:gk q.Seq W 256=0)(bA:∀ x ∈ fW q.Seq W,cy x)(bO:rh W) :
  a5 227 [ptr aI,q.val] u (lX A w0 u aI tb r m j V (mx j m q.Seq W Ls G)):=by
 refine ba Tryz.func227 ?_;rw[ptr,V1];have bP:=M.aj.lt;have bV:=bK.aj.lt;have bm:=M.cg.dead;have b8:=M.bp.dead;obtain⟨_,cb,_⟩:=jA ag;rintro b1 w1 bb aG;obtain⟨t,b⟩:=bo bb aG;have t:av w1 b1 q.cells er:=t;clear aG;have bz:=b.size;refine b7.aV q ⟨bX t rfl,?_⟩;refine aB (PF (M.bH b) (bK.new b) bk (bq.new b) a0 (ab.new b) ag bA) ?_;rintro v cu ⟨rfl,g⟩;have h:=g.of (B':=u.heap.size) b bz;refine⟨_,rfl,eF (λbl=>?_) (λcd=>?_)⟩
 ·have e:mx j m q.Seq W Ls G=kE j q.Seq W Ls G:=bh bl
  grind
 have aX:mx j m q.Seq W Ls G=nf j m q.Seq W (fw j m W (kE j q.Seq W Ls G).a2):=aQ (by grind);obtain⟨b_,U,bC⟩:=pr cd;have af:=g.eI;rw[show(kE j q.Seq W Ls G).out=(0,0) from b_]at af;obtain⟨cn,a8,C,N⟩:=g.gz;rw[show(kE j q.Seq W Ls G).ask=none from U]at N;rw[show(kE j q.Seq W Ls G).dH=false from bC]at C;have c:b1≠tb/\b1≠aI:=by grind
 have F:=g.aA.aj t λe=>e.elim c.1 c.2
 have ad:=w7 (ab.new b) g.aA λk U e=>e.elim (I k U).1 (I k U).2
 refine b7.aV q ⟨bX F rfl,?_⟩;refine aB (L4 af a8 ⟨N,C⟩ ad I bO.wr) ?_;rintro v b0 ⟨aW,pc,rfl,f,s,ca⟩;have o:=PG (j:=j) (m:=m) (W:=W) (G:=(kE j q.Seq W Ls G).a2);generalize b3:(kE j q.Seq W Ls G).a2=a at f s aX o;have n:eK A w0 u aI tb u.heap.size r m j V (fw j m W a) b0:=eK.seq h.aA (ao.refl _ _) f (h.aA.size);refine⟨_,_,_,_,rfl,eF (λbl=>?_) (λah=>?_)⟩
 ·have e:nf j m q.Seq W (fw j m W a)=fw j m W a:=bh bl
  grind
 have aZ:nf j m q.Seq W (fw j m W a)=if(gx j W (fw j m W a).done (fw j m W a).done.length).length=0 then fw j m W a else od j m q.Seq (gx j W (fw j m W a).done (fw j m W a).done.length) (bN (fw j m W a).a2 (nM j q.Seq (gx j W (fw j m W a).done (fw j m W a).done.length))):=aQ (by grind);have w:=pr ah;have Z:(fw j m W a).out=(0,0):=w.1;have X:(fw j m W a).ask=none:=w.2.1;have E:(fw j m W a).dH=false:=w.2.2;clear w;have R:(fw j m W a).done.length<=W.length:=o;generalize fw j m W a=P at f n s aX aZ Z X E R ah;have B:=f.eI;rw[show P.out=(0,0) from Z]at B;obtain⟨cp,a',D,O⟩:=f.gz;rw[show P.ask=none from X]at O;rw[show P.dH=false from E]at D;have ae:=DN (j:=j) (ds:=P.done) R;have bx:=zc j W P.done P.done.length;generalize gx j W P.done P.done.length=l at s aZ ae bx;rw[aX,aZ];refine eg (λb2=>?_) (λb2=>?_)
 ·grind
 rw[aQ (by omega)];have aO:=f.aA.aj F λe=>e.elim c.1 c.2
 rintro bI aH;have J:ai b0 bI:=by rw[aH];exact cR _
 clear aH;have Q:=B.bH J;have aR:=ai.aj J aO;refine⟨λy=>ai bI y,ao.refl _ _,r.e7,λy bD=>(ai.aj bD Q.aj).cell (i:=5) rfl,q.Seq,λy bD=>(ai.aj bD aR).cell (i:=0) rfl,?_⟩;dsimp only;rw[b8,kP (x:=q.Seq) (by omega) (by omega)];refine aB (wZ bI bm) ?_;rintro v cz ⟨rfl,K⟩;have H:=Q.bH K;obtain⟨cm,L⟩:=M.bp.view;refine⟨_,rfl,K,da.aV r.View ⟨bX H.aj rfl,?_⟩⟩;refine aB (DA (L.new H.new) M.cg.mem.1) ?_;rintro v cj ⟨cr,ct,rfl,Y,bj⟩;refine⟨_,_,_,rfl,?_⟩;have d:=(J.new K).new Y;have z:=bO.sub ae (by omega);have o:fM cj aW l.length l:=⟨s.new d,rfl,by grind,λp br=>(z.wr.ok p br).2.2.2.2⟩;have b9:=h.aA.size;have bM:=n.aA.size;have bT:=d.size;refine PI (H.bH Y) (a'.new d) ⟨O,D⟩ bj o (λk U=>?_) z (seq:=q.Seq) ⟨by omega,by omega⟩ _ λS v bB b5 al br=>?_
 ·grind
 ·rw[<-b5];exact⟨al,eK.seq n.aA d br (by omega)⟩
end
end
section
structure Bb (R:Int×List aN):Prop where
 yQ:gk R.1 R.2 256=0
 pl:rh R.2
 u64:∀ x ∈ fW R.1 R.2,cy x
theorem Gv (h:fL L lines=true)(hu:∀ x ∈ L,cy x):Bb (c2 L lines):=by
 obtain⟨g,f,i⟩:=PE h hu;obtain⟨_,k,_⟩:=jA g;refine⟨Cf g,⟨f,i⟩,FC (by grind[cy]) f.ei λp j=>?_⟩;obtain⟨a,b,c,d,e⟩:=f.ok p j
 grind[cy]
theorem Aq {lines:Int}{P:(Int×List aN)->Prop}:∀ (Ls:eE) (b:(Int×List aN)×Bool),(∀ L ∈ Ls,hf L lines=true->P (f_ L lines))->(b.2=true->P b.1)->(Ls.foldl (nu lines) b).2=true->P (Ls.foldl (nu lines) b).1
 | [],_,_,a=>a
 |L::Ls,b,h,a=>by
  refine Aq Ls _ (λc d=>h c (fG _ d)) ?_
  grind[nu,List.mem_cons_self]
theorem Cj (h:hf L lines=true):fL L lines=true/\f_ L lines=c2 L lines:=by
 refine⟨?_,bh h⟩;unfold hf at h
 grind
theorem Rd (hu:∀ L ∈ Ls,∀ x ∈ L,cy x)(h:(dT lines Ls).2=true):Bb (dT lines Ls).1:=by
 refine Aq (P:=Bb) Ls _ (λL d a=>?_) (λe=>by cases e) h;obtain⟨b,c⟩:=Cj a
 grind[Gv]
def eO (j:bL)(m:aS)(Ls:eE)(G:a3):(Int×Int)×cd:=
 if(dT j.lines Ls).2=true then((2,(dT j.lines Ls).1.1),mx j m (dT j.lines Ls).1.1 (dT j.lines Ls).1.2 Ls G)
 else if fL (Ls.getD 0 []) j.lines=true then((3,(c2 (Ls.getD 0 []) j.lines).1),sS j m (c2 (Ls.getD 0 []) j.lines).2 G)
 else((1,0),⟨true,[],(0,0),G,none,false⟩)
section
variable {A:a4}{w0 u:an}{aI tb:Nat}{r:c_}{m:aS}{j:bL}{V:eU}{T:eM}{G:a3}
def Ar (A:a4)(w0 u:an)(aI tb:Nat)(r:c_)(m:aS)(j:bL)(V:eU)(S:(Int×Int)×cd)(v:bf)(bB:an):Prop:=
 v=.tuple #[.int .i64 S.1.1,.int .i64 S.1.2,.bool S.2.ok]/\eK A w0 u aI tb u.heap.size r m j V S.2 bB
theorem PJ (N:dv w0 u aI tb r m j V (0,0))(bl:eV A w0 u tb T G)(F:gF T)(Y:lI w0 u aI tb V Ls)(br:Ls.length=j.v.mem.length) :
  a5 182 [ptr aI] u (Ar A w0 u aI tb r m j V (eO j m Ls G)):=by
 refine ba Tryz.func182 ?_;rw[ptr,V0];have ca:=N.aj.lt;have cp:=bl.aj.lt;have cB:=N.cg.mem;have I:=N.bp.lines;obtain⟨⟨bj,bP,bO,cQ,P⟩,b8⟩:=id Y;have hu:∀ L ∈ Ls,∀ x ∈ L,cy x:=λL bq=>by obtain⟨i,cF⟩:=ez.1 bq;obtain⟨s,bm⟩:∃ s,bj[i]?=some s:=⟨_,b2 (by grind)⟩;exact(P i s L bm cF).u64
 refine aB (Lf N Y (by omega)) ?_;rintro v w1 ⟨aW,pc,rfl,aH,aZ,cG⟩;have cI:=aH.size;have B:=Rd (lines:=j.lines) hu;have af:(dT j.lines Ls).2=true->eO j m Ls G=((2,(dT j.lines Ls).1.1),mx j m (dT j.lines Ls).1.1 (dT j.lines Ls).1.2 Ls G):=λh=>bh h
 have ag:¬ (dT j.lines Ls).2=true->eO j m Ls G=if fL (Ls.getD 0 []) j.lines=true then((3,(c2 (Ls.getD 0 []) j.lines).1),sS j m (c2 (Ls.getD 0 []) j.lines).2 G)else((1,0),⟨true,[],(0,0),G,none,false⟩):=λh=>aQ h
 generalize dT j.lines Ls=d at aZ B af ag;refine b7.aV ⟨d.1.1,aW,d.1.2.length,pc⟩ ⟨_,rfl,?_⟩;refine io (vs:=b7.cells ⟨d.1.1,aW,d.1.2.length,pc⟩) rfl (b7.single _) λb1 cr cA bT aO=>?_
 have Q:=aH.new aO;refine gW (λah=>?_) (λah=>?_)
 ·rw[af ah];have H:=B ah;rintro cU a8;have Z:ai cr cU:=by rw[a8];exact cR _
  clear a8;have l:=Q.new Z;have w:=ai.aj Z bT;refine⟨λy=>av y b1 (b7.cells ⟨d.1.1,aW,d.1.2.length,pc⟩) er,w,d.1.1,λy z=>z.cell (i:=0) rfl,b7.aV ⟨d.1.1,aW,d.1.2.length,pc⟩ ⟨λy z=>bX z rfl,?_⟩⟩;refine aB (Ma (N.bH l) (bl.new l) F (Y.new l) br (q:=⟨d.1.1,aW,d.1.2.length,pc⟩) (aZ.new (aO.new Z)) (λk H=>?_) H.yQ H.u64 H.pl) ?_
  ·grind
  rintro v c3 ⟨rfl,aX⟩;exact⟨_,rfl,aX.aA.aj w λe=>by grind,rfl,aX.of l l.size⟩
 have ah:¬ d.2=true:=by grind
 rw[ag ah];rintro ct a';have bI:ai cr ct:=by rw[a'];exact cR _
 clear a';have o:=Q.new bI;have E:=N.bH o;obtain⟨s,bm⟩:∃ s,bj[0]?=some s:=⟨_,b2 (by omega)⟩;obtain⟨L,bq⟩:∃ L,Ls[0]?=some L:=⟨_,b2 (by omega)⟩;have X:=P 0 s L bm bq;have cz:Ls.getD 0 []=L:=by grind
 rw[cz];have bK:=Gv (L:=L) (lines:=j.lines) (hu:=X.u64);refine⟨λy=>ai ct y,ao.refl _ _,_,_,_,λy z=>(ai.aj z E.aj).cell (i:=13) rfl,?_⟩;refine lg (cells:=nx) (sz:=1) (λ_=>rfl) (by decide) (bP.new o) bm rfl bO λb' cZ bA=>⟨s.a,s.n,s.c,λy z=>by simpa using bA y z 0 _ rfl,r.hP,λy z=>(ai.aj z E.aj).cell (i:=2) rfl,?_⟩
 rw [I];have fin:∀ {y:an} {M:Nat} {pb:ak} {aY:Nat},ai u y->av y M (b7.cells ⟨(c2 L j.lines).1,pb,(c2 L j.lines).2.length,aY⟩) er->u.heap.size<=M->fM y pb (c2 L j.lines).2.length (c2 L j.lines).2->(∀ k,aP pb k->u.heap.size<=k)->
   (bif (fL L j.lines)then(∀ D,D=y.drew->∃ bk:aJ,bk D/\∃ Seq:Int,(∀ u,bk u->u.cell? ⟨M,0,none⟩=some (.int .i64 Seq))/\b7.ex λr1=>(∀ u,bk u->cn u ⟨M,0,none⟩ 0 r1.cells)/\Calls prog 229 #[ptr aI,r1.val] D λe ae=>∃ b:Bool,e=.returned (.bool b)/\bk ae/\Ar A w0 u aI tb r m j V (if fL L j.lines=true then((3,(c2 L j.lines).1),sS j m (c2 L j.lines).2 G)else((1,0),⟨true,[],(0,0),G,none,false⟩)) (.tuple #[.int .i64 3,.int .i64 Seq,.bool b]) ae)
    else Ar A w0 u aI tb r m j V (if fL L j.lines=true then((3,(c2 L j.lines).1),sS j m (c2 L j.lines).2 G)else((1,0),⟨true,[],(0,0),G,none,false⟩)) (.tuple #[.int .i64 1,.int .i64 0,.bool true]) y):=by
  intro y M pb aY K bV aG bM b9;refine gW (λhw=>?_) (λhw=>?_)
  ·rw[bh hw];have H:=bK hw;rintro D S;have C:ai y D:=by rw[S];exact cR _
   clear S;have p:=K.new C;have W:=ai.aj C bV;refine⟨λy=>av y M (b7.cells ⟨(c2 L j.lines).1,pb,(c2 L j.lines).2.length,aY⟩) er,W,_,λy z=>z.cell (i:=0) rfl,b7.aV ⟨(c2 L j.lines).1,pb,(c2 L j.lines).2.length,aY⟩ ⟨λy z=>bX z rfl,?_⟩⟩;refine aB (Su (N.bH p) (bl.new p) F (q:=⟨(c2 L j.lines).1,pb,(c2 L j.lines).2.length,aY⟩) (bM.new C) H.pl.wr) ?_;rintro v ae ⟨rfl,aX⟩;exact⟨_,rfl,aX.aA.aj W λe=>by grind,rfl,aX.of p p.size⟩
  ·rw[aQ (by grind)];have bx:=bl.new K;exact⟨rfl,ao.cm K,N.bH K,T,bx,F.dH,F.e_⟩
 have cj:=o.size;refine⟨?_,?_⟩
 ·refine aB (w4 j.lines (X.new E.new)) ?_;rintro v cV ⟨pb,aY,rfl,J,a0,b_⟩;refine b7.aV ⟨(c2 L j.lines).1,pb,(c2 L j.lines).2.length,aY⟩ ⟨_,rfl,J,?_⟩;rintro M cW aG bb;obtain⟨ad,aR⟩:=bo aG bb;have ad:av cW M js.cells er:=ad;clear bb;have cP:=J.size;refine⟨J.new aR,dY (vs:=b7.cells ⟨(c2 L j.lines).1,pb,(c2 L j.lines).2.length,aY⟩) ad rfl (b7.single _) λcY b0 bC=>?_⟩;have R:ai cV cY:=aR.trans bC λk bD e=>by omega
  exact fin ((o.new J).new R) b0 (by omega) (a0.new R) λk H=>by grind
 ·rintro cu b3 bz U;obtain⟨t,g⟩:=bo bz U;have t:av b3 cu js.cells er:=t;clear U;have cb:=g.size;have b5:=t.lt;refine⟨g,aB (w4 j.lines (X.new (E.bH g).new)) ?_⟩;rintro v cS ⟨pb,aY,rfl,f,ab,bN⟩;have cd:=f.size;refine b7.aV ⟨(c2 L j.lines).1,pb,(c2 L j.lines).2.length,aY⟩ ⟨_,rfl,g.new f,dY (vs:=b7.cells ⟨(c2 L j.lines).1,pb,(c2 L j.lines).2.length,aY⟩) (ai.aj f t) rfl (b7.single _) λcT w O=>?_⟩;exact fin ((o.new (g.new f)).trans O λk bD e=>by omega) w (by omega) (w7 ab O λk H e=>by grind) λk H=>by grind
end
end
section
noncomputable abbrev oc:Func:=f129
def Jj (r:c_)(tb:Nat)(m:aS)(tag:Int)(V:eU)(o:dB):ax:=r.cells++(ptr tb::m.cells)++[.int .u64 tag,.slice V.fX V.kD V.lc,.int .u64 V.clock]++o.cells
structure vb (A:a4)(w0 u:an)(aI tb B:Nat)(r:c_)(m:aS)(tag:Int)(S:cd)(o:dB)(bB:an):Prop where
 aA:ao (λk=>k=tb\/k=aI) u bB
 aj:∃ V,av bB aI (Jj r tb m tag V o) o4
 gz:∃ iO:eM,eV A w0 bB tb iO S.a2/\iO.dH=S.dH/\(match S.ask with
  |none=>iO.e_=0
  |some vs=>0<vs.length/\∃ w1,ai w0 w1/\B<=w1.heap.size/\bP w1 bB iO.aa iO.e_ iO.ac vs)
theorem eK.run {r:c_}{m:aS}{j:bL}{V:eU}{S:cd}(h:eK A w0 u aI tb B r m j V S bB):vb A w0 u aI tb B r m (gY j.inc j.aL) S (jj S.out) bB:=
 ⟨h.aA,⟨V,h.eI.aj⟩,h.gz⟩
def kT (j:bL)(m:aS)(G:a3):eE:=sG j (bN G (gl j m)).done
def mW (j:bL)(m:aS)(G:a3):Int:=uf j (bN G (gl j m)).done
def rW (j:bL)(m:aS)(Ls:eE)(cE:Int)(Z:(Int×Int)×cd):cd×dB:=
 if Z.2.ok=false then(Z.2,jj Z.2.out)else if(h8 j m Z.2.a2).ok=false then(h8 j m Z.2.a2,jj (h8 j m Z.2.a2).out)
 else(h8 j m Z.2.a2,⟨0,Z.1.1,Z.1.2,fT j.lines cE Ls,0⟩)
def tH (j:bL)(m:aS)(C:cd):cd×dB:=
 if C.ok=false then(C,jj C.out)else if(gm j m C.a2).ok=false then(gm j m C.a2,jj (gm j m C.a2).out)
 else rW j m (kT j m C.a2) (mW j m C.a2) (eO j m (kT j m C.a2) (gm j m C.a2).a2)
def iE (j:bL)(m:aS)(G:a3):cd×dB:=
 if(hX j G).ok=false then(hX j G,jj (hX j G).out)else tH j m (ix j m (hX j G).a2)
structure p8 (S:cd):Prop where
 out:S.out=(0,0)
 ask:S.ask=none
 dH:S.dH=false
theorem ze {G:a3}{vs:a_}(h:(bN G vs).ok=true):p8 (bN G vs):=by obtain⟨a,b,c⟩:=pr h;exact⟨a,b,c⟩
theorem Mb {j:bL}{m:aS}{G:a3}(h:(ix j m G).ok=true):p8 (ix j m G):=by
 unfold ix at h ⊢;split at h
 ·grind
 rename_i e;rw[aQ e];split at h
 ·cases h
 rename_i a;rw[aQ a];exact⟨rfl,rfl,rfl⟩
theorem Ob {j:bL}{m:aS}{G:a3}(h:(gm j m G).ok=true):p8 (gm j m G):=by
 unfold gm sR at h ⊢;split at h
 ·grind
 rename_i e;rw[aQ e];split at h
 ·rename_i a;rw[bh a];exact⟨rfl,rfl,rfl⟩
 grind
theorem L5 {j:bL}{m:aS}{G:a3}(h:(eO j m Ls G).2.ok=true):p8 (eO j m Ls G).2:=by
 unfold eO at h ⊢;split at h
 ·rename_i e;rw[bh e];simp only at h ⊢;unfold mx at h ⊢;split at h
  ·grind
  rename_i a;rw[aQ a];unfold nf at h ⊢;split at h
  ·grind
  rename_i c;rw[aQ c];split at h
  ·rename_i b;rw[bh b];exact ze h
  rename_i b;rw[aQ b];unfold od at h ⊢;split at h
  ·grind
  rename_i d;rw[aQ d];exact ze h
 rename_i e;rw[aQ e];split at h
 ·rename_i a;rw[bh a];exact ze h
 ·rename_i a;rw[aQ a];exact⟨rfl,rfl,rfl⟩
theorem Mc {j:bL}{G:a3}(h:(hX j G).ok=true):p8 (hX j G):=by
 unfold hX uO at h ⊢;split at h
 ·grind
 rename_i e;rw[aQ e];split at h
 ·cases h
 rename_i a;rw[aQ a];unfold pJ at h ⊢;split at h
 ·grind
 rename_i b;rw[aQ b];split at h
 ·cases h
 rename_i c;rw[aQ c];exact⟨rfl,rfl,rfl⟩
def Ao (G:a3):Prop:=∀ ds ∈ G,∀ d ∈ ds,∀ x ∈ d.words,cy x
theorem Tg {G:a3}(h:ic A w a G):Ao G:=by obtain⟨rows,o,_,_,l⟩:=h;intro ds b d g x n;obtain⟨i,j⟩:=ez.1 b;obtain⟨k,f⟩:=ez.1 g;obtain⟨r,c⟩:∃ r,rows[i]?=some r:=⟨_,b2 (by grind)⟩;obtain⟨_,_,e,_⟩:=l i r ds c j;obtain⟨v,al⟩:∃ v,r.raw[k]?=some v:=⟨_,b2 (by have:=cS f;have:=e.1;omega)⟩;exact(e.2 k v d al f).wf x n
theorem Sx {G:a3}{vs:a_}(h:Ao G):∀ d ∈ (bN G vs).done,∀ x ∈ d.words,cy x:=by
 intro d a;have:d ∈ (batch G vs).done:=by
  grind[bN,cA]
 unfold batch at this;split at this
 ·grind
 cases G with
 |nil=>grind
 |cons ds G=>
  simp only at this;split at this
  ·exact h ds fR d this
  grind
theorem Re {j:bL}{m:aS}{G:a3}(h:Ao G):cy (mW j m G):=by
 unfold mW uf di ed;rw[hO];cases a:(bN G (gl j m)).done[2*j.v.mem.length]? with
 |none=>exact hL
 |some d=>
  have:=Sx h d (b9 a);cases hw:d.words with
  |nil=>grind[hL]
  |cons x l=>grind
theorem Rf {j:bL}{m:aS}{G:a3}(h:(gm j m G).ok=true):(bN G (gl j m)).ok=true:=by
 grind[gm,sR]
theorem FX {G:a3}{vs:a_}(h:(bN G vs).ok=true):(bN G vs).done.length=vs.length:=by
 unfold bN cA at h ⊢;split at h
 ·cases h
 split at h
 ·cases h
 rename_i b c;rw[aQ b,aQ c];have a:(batch G vs).ok=true:=by grind
 show(batch G vs).done.length=_;unfold batch at a ⊢;by_cases al:vs.length=0
 ·grind
 rw[aQ al]at a ⊢;cases G with
 |nil=>grind
 |cons d G'=>
  simp only at a ⊢;split at a
  ·rename_i e;rw[bh e]
   grind[wC]
  grind
theorem PK {j:bL}{m:aS}{G:a3}(h:(gm j m G).ok=true):(kT j m G).length=j.v.mem.length/\∀ L ∈ kT j m G,L.length=120:=by
 unfold kT sG;refine⟨by simp,λL d=>?_⟩;obtain⟨i,b,rfl⟩:=cW.1 d;have b:=gS.1 b;have a:=Rf h;obtain⟨bj,hm⟩:=Da (m:=m) b;have hlen:=FX a;obtain⟨x,c⟩:∃ x,(bN G (gl j m)).done[2*i+1]?=some x:=⟨_,b2 (by grind)⟩;have:=Gt a hm c;rw[hO,c];have e:(nK j bj (fN j.dead) 120).v.hi=120:=rfl
 grind
section
variable {A:a4}{w0 u:an}{aI tb:Nat}{r:c_}{m:aS}{j:bL}{V:eU}{T:eM}{G:a3}
theorem eK.wc {S:cd}(h:eK A w0 u aI tb B r m j V S bB)(c:p8 S):dv w0 bB aI tb r m j V (0,0)/\∃ b,eV A w0 bB tb b S.a2/\gF b:=by have a:=h.eI;rw[c.out]at a;obtain⟨b,f,d,e⟩:=h.gz;rw[c.ask]at e;rw[c.dH]at d;exact⟨a,b,f,e,d⟩
theorem Rg (aX:dv w0 u aI tb r m j ⟨none,0,0,0⟩ (0,0))(bC:eV A w0 u tb T G)(bj:gF T) :
  a5 129 [ptr aI] u λv bB=>v=.tuple #[]/\vb A w0 u aI tb u.heap.size r m (gY j.inc j.aL) (iE j m G).1 (iE j m G).2 bB:=by
 refine ba Tryz.func129 ?_;rw[ptr,Wr];generalize bT:(λ(v:bf) (bB:an)=>v=.tuple #[]/\vb A w0 u aI tb u.heap.size r m (gY j.inc j.aL) (iE j m G).1 (iE j m G).2 bB)=R;have stop:∀ {w:an} (aC:ax),R (.tuple #[]) w->Go.bJ.W prog (sub (bu oc) [0,1]) (vq ⟨aI,0,none⟩ true aC) (aZ (λenv w=>Go.bJ.W prog (sub (bu oc) [1]) env (dE prog oc R) w) (dE prog oc R)) w:=by
  intro w aC h;refine hG (fn:=oc) (R:=R) (λ_ _=>rfl) ?_
  grind[H4]
 have last:∀ {w:an} {S:cd×dB},iE j m G=S->vb A w0 u aI tb u.heap.size r m (gY j.inc j.aL) S.1 S.2 w->R (.tuple #[]) w:=by
  grind
 refine aB (uL aX bC bj) ?_;rintro v bQ ⟨rfl,q⟩;refine⟨_,rfl,eF (λbl=>stop _ (last (S:=(hX j G,jj (hX j G).out)) (bh bl) q.run)) (λbD=>?_)⟩
 have aG:iE j m G=tH j m (ix j m (hX j G).a2):=aQ (by grind);obtain⟨a0,bK,O,X⟩:=q.wc (Mc bD);refine aB (Rc a0 O X) ?_;rintro v cl ⟨rfl,J⟩;generalize bA:(hX j G).a2=n at J O aG;have d:=eK.seq q.aA (ao.refl _ _) J q.aA.size;refine⟨_,rfl,eF (λbl=>stop _ (last (S:=(ix j m n,jj (ix j m n).out)) (aG.trans (bh bl)) d.run)) (λbq=>?_)⟩
 obtain⟨a8,bM,I,Y⟩:=J.wc (Mb bq);have aH:iE j m G=if(gm j m (ix j m n).a2).ok=false then(gm j m (ix j m n).a2,jj (gm j m (ix j m n).a2).out)else rW j m (kT j m (ix j m n).a2) (mW j m (ix j m n).a2) (eO j m (kT j m (ix j m n).a2) (gm j m (ix j m n).a2).a2):=aG.trans (aQ (by grind));refine aB (Ss a8 I Y) ?_;rintro v bw ⟨rfl,M,K,a⟩;generalize (ix j m n).a2=b at K a I aH;have f:=eK.seq d.aA (ao.refl _ _) K d.aA.size;refine⟨_,rfl,?_⟩;cases p:(gm j m b).ok with
 |false=>exact stop _ (last (S:=(gm j m b,jj (gm j m b).out)) (aH.trans (bh p)) f.run)
 |true=>
  obtain⟨a',bN,aP,ab⟩:=K.wc (Ob p);have N:iE j m G=rW j m (kT j m b) (mW j m b) (eO j m (kT j m b) (gm j m b).a2):=aH.trans (aQ (by grind));obtain⟨a,c⟩:=a p;have a:lI w0 bw aI tb M (kT j m b):=a;have c:M.clock=mW j m b:=c;obtain⟨af,B⟩:=PK p;have bk:cy (mW j m b):=Re (Tg I.a2);refine hG (fn:=oc) (R:=R) (λ_ _=>rfl) ?_;rw[H4];refine dG rfl (fa (hG (fn:=oc) (R:=R) (λ_ _=>rfl) ?_));rw[UY];generalize kT j m b=Ls at a N af B;generalize mW j m b=cE at c N bk;refine aB (PJ a' aP ab a af) ?_;rintro v cq ⟨rfl,s⟩;have H:(eO j m Ls (gm j m b).a2).2.ok=true->p8 (eO j m Ls (gm j m b).a2).2:=L5;generalize eO j m Ls (gm j m b).a2=Z at s N H;have g:=eK.seq f.aA (ao.refl _ _) s f.aA.size;have l:∀ {w:an} {S:cd×dB} (aC:ax) {Q:Exit->ax->aJ},(∀ env w,Q .ret env w=dE prog oc R .ret env w)->iE j m G=S->vb A w0 u aI tb u.heap.size r m (gY j.inc j.aL) S.1 S.2 w->∀ (x y:Int),(∀ env w,R (.tuple #[]) w->Q .normal env w)->Go.bJ.W prog (sub (bu oc) [1,1,1]) (xU ⟨aI,0,none⟩ x y false aC) (bO prog oc R Q) w:=by
   grind[H5]
  refine⟨_,_,_,rfl,gW (λbo=>?_) (λbo=>?_)⟩
  ·obtain⟨bb,bP,aR,ad⟩:=s.wc (H bo);have aO:iE j m G=if(h8 j m Z.2.a2).ok=false then(h8 j m Z.2.a2,jj (h8 j m Z.2.a2).out)else(h8 j m Z.2.a2,⟨0,Z.1.1,Z.1.2,fT j.lines cE Ls,0⟩):=N.trans (aQ (by grind));refine aB (DJ bb aR ad) ?_;rintro v br ⟨rfl,t⟩;have z:(h8 j m Z.2.a2).ok=true->p8 (h8 j m Z.2.a2):=ze;generalize h8 j m Z.2.a2=E at t aO z;have F:=eK.seq g.aA (ao.refl _ _) t g.aA.size;refine⟨_,rfl,?_⟩;cases au:E.ok with
   |false=>exact l _ (λ_ _=>rfl) (S:=(E,jj E.out)) (aO.trans (bh au)) F.run _ _ λ_ _ h=>h
   |true=>
    have bz:=aO.trans (aQ (by grind));obtain⟨U,bx,aV,C⟩:=t.wc (z au);rw[H5];refine hc rfl ?_;have ae:ao (λk=>k=tb\/k=aI) bw br:=s.aA.trans t.aA λ_ _ e=>e
    refine aB (Nz U (a.aA ae λ_ e=>e) (by have:=aX.cg.mem;omega) B (by grind)) ?_;rintro v bI ⟨rfl,ag⟩;have V:=U.bH ag;refine⟨_,rfl,gq V.aj (db 20) (dB.single ⟨0,Z.1.1,Z.1.2,_,0⟩),λah L=>?_⟩;have bm:ao (λk=>k=aI) bI ah:=by rw[L];exact ir _ _ _ _ _
    have P:av ah aI (Jj r tb m (gY j.inc j.aL) M ⟨0,Z.1.1,Z.1.2,fT j.lines M.clock Ls,0⟩) o4:=by rw[L];exact V.aj.cI (vs:=dB.cells ⟨0,Z.1.1,Z.1.2,_,0⟩) (o:=15) (i:=0)
    clear L;rw[c]at P;have D:ao (λk=>k=aI) br ah:=(ao.cm ag).trans bm λ_ _ e=>e
    show R (.tuple #[]) ah;refine last bz ⟨F.aA.trans D λk _ e=>.inr e,⟨M,P⟩,bx,aV.aA D λe=>aX.ne e.symm,by rw[C.dH,(z au).dH],?_⟩;rw[(z au).ask];exact C.e_
  ·exact l _ (λ_ _=>rfl) (S:=(Z.2,jj Z.2.out)) (N.trans (bh bo)) g.run _ _ λ_ _ h=>h
end
end
end Go.Proofs.YtmkljjbioomepaaGreat
