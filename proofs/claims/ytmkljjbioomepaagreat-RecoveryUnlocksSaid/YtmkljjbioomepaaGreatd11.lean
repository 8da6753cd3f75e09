import Derived.Test.YtmkljjbioomepaaGreatd10
set_option linter.all false
set_option maxHeartbeats 4000000
set_option maxRecDepth 100000
namespace Go.Proofs.YtmkljjbioomepaaGreat
open Go.Proofs.Tryz Go.bs
variable {A:a6} {P:Program} {X:bR} {a:an} {b c cap aJ g i j m n q:Nat} {d:bT} {e t ty:TypeId} {n':aN} {p p':dF} {w w':ak} {xs:ax} {y:hF} {aw:Nat->Tag}
section
theorem IZ (h:xs.length=n) (s:bk w a xs) (p:∀ u ∈ xs,single u=true) (x:n<=1000000000) (l:a=none->n=0) :
  bb 71 [.slice a n c] w λv w'=>∃ e cap,v=.slice e n cap/\tA w w' 3 1 a e n cap xs:=by
 refine bd Tryz.func71 ?_;rw [Uq];obtain ⟨i,q,au,d,g⟩:=fV (T:=3) (z:=.int .i64 0) (n:=1) (m:=8) (by kernel_rfl);cases a with
 |none=>
  refine gB rfl ⟨none,0,by rw [l rfl],ao.refl _ _,?_,?_,by simp⟩
  ·rw [l rfl] at h ⊢;rw [fF h];exact a1.nil _ _ _
  ·rintro k ⟨o,r⟩;cases r
 |some a=>refine di rfl ?_;rintro b1 w1 rfl rfl;obtain ⟨e,b,w',f,j⟩:=yb (t:=22) (ty:=22) (z:=.int .i64 0) (n:=n) (c:=c) (w:=w) (a:=a) (xs:=xs) Tryz.underlying22 q au (by rw [d];rfl) (by omega) (by rw [h,d];omega) s p (by omega) (by rw [g];omega);exact ⟨e,n,b,w',f,e,b,rfl,by rw [d] at j;exact j⟩
theorem Cx {fN fB:Nat} {n:aN} {r:a4} {t lz:Tag} (j:dM A w b p) (f:∀ k,p.mut b k->aw k=t) (F:t≠.cx) (q:∀ k,aw k≠.cx->k<w.heap.size) (O:∀ k,aw k≠.cx->A k) (T:aw fB=lz)
  (S:yv A b fN fB p n w r w') :
  ∃ (χ':Nat->Tag) (d:bT) (p':dF),r=.tuple #[d.val,.bool (p.pure.step n).2.2.isSome]/\p'.pure=(p.pure.step n).1/\ea w' fN fB (p.pure.step n).2.1/\ao (λk=>aw k=t\/aw k=lz) w w'/\
   (∀ k,k<w.heap.size->χ' k≠.cx->aw k≠.cx)/\(∀ k,k<w.heap.size->aw k≠t->χ' k=aw k)/\(∀ k,χ' k≠.cx->k<w'.heap.size)/\(∀ k,p'.mut b k->χ' k=t)/\dM (gC A aw χ' w) w' b p'/\
   ∀ x,(p.pure.step n).2.2=some x->lu (gC A aw χ' w) w' d x:=by
 classical
 obtain ⟨d,p',rfl,E,C,u,Q,l,h,U,V,P⟩:=S;have s:∀ k,p.mut b k->k<w.heap.size:=by
  rintro k (rfl | a | a)
  ·exact j.aj.lt
  ·exact j.own.lt a
  ·exact j.ks.lt a
 have i:∀ k,p'.mut b k->p.mut b k\/w.heap.size<=k:=by
  rintro k (a | a | a)
  ·exact .inl (.inl a)
  ·rcases U with e | e
   ·exact .inl (.inr (.inl (e▸a)))
   ·exact .inr (e k a)
  ·rcases V with e | e
   ·exact .inl (.inr (.inr (e▸a)))
   ·exact .inr (e k a)
 have D:=l (λk=>(k<w.heap.size/\A k)\/aL p'.c4 k\/aL p'.c6 k) (λk a=>a) (λk a=>by
  rcases a with a | a | a
  ·exact .inl ⟨s k (.inl a),j.iz k (.inl a)⟩
  ·exact .inr (.inl a)
  ·exact .inr (.inr a))
 have B:∀ k,p'.mut b k->k<w'.heap.size:=by
  rintro k (rfl | a | a)
  ·exact D.aj.lt
  ·exact D.own.lt a
  ·exact D.ks.lt a
 let χ':Nat->Tag:=λk=>if p'.mut b k then t else if (p.pure.step n).2.2.isSome=true/\aL d.Words k then .cx else aw k
 have t1:∀ k,p'.mut b k->χ' k=t:=λk a=>if_pos a
 have t2:∀ k,¬ p'.mut b k->(p.pure.step n).2.2.isSome=true->aL d.Words k->χ' k=.cx:=λk g L M=>by show (if p'.mut b k then t else if (p.pure.step n).2.2.isSome=true/\aL d.Words k then Tag.cx else aw k)=_;rw [if_neg g,if_pos ⟨L,M⟩]
 have t3:∀ k,¬ p'.mut b k->¬ ((p.pure.step n).2.2.isSome=true/\aL d.Words k)->χ' k=aw k:=λk g L=>by show (if p'.mut b k then t else if (p.pure.step n).2.2.isSome=true/\aL d.Words k then Tag.cx else aw k)=_;rw [if_neg g,if_neg L]
 have J:∀ k,aL d.Words k->k<w.heap.size->aw k=t:=λk a z=>by
  rcases Q k a with g | g
  ·exact f k (.inr (.inr g))
  ·omega
 have Z:∀ k,k<w.heap.size->χ' k≠.cx->aw k≠.cx:=by
  intro k z c;by_cases hm:p'.mut b k
  ·rcases i k hm with g | g
   ·rw [f k g];exact F
   ·omega
  ·by_cases aq:(p.pure.step n).2.2.isSome=true/\aL d.Words k
   ·rw [t2 k hm aq.1 aq.2] at c;exact absurd rfl c
   ·rw [t3 k hm aq] at c;exact c
 have Xw:∀ k,k<w.heap.size->aw k≠t->χ' k=aw k:=by
  intro k z c;by_cases hm:p'.mut b k
  ·rcases i k hm with g | g
   ·exact absurd (f k g) c
   ·omega
  ·by_cases aq:(p.pure.step n).2.2.isSome=true/\aL d.Words k
   ·exact absurd (J k aq.2 z) c
   ·exact t3 k hm aq
 have Xv:∀ k,χ' k≠.cx->k<w'.heap.size:=by
  intro k c;by_cases hm:p'.mut b k
  ·exact B k hm
  ·by_cases aq:(p.pure.step n).2.2.isSome=true/\aL d.Words k
   ·rw [t2 k hm aq.1 aq.2] at c;exact absurd rfl c
   ·rw [t3 k hm aq] at c;exact gi (q k c) h.size
 have N:dM (gC A aw χ' w) w' b p':=by
  refine l _ (λk a=>?_) (λk a=>.inl (by rw [t1 k a];exact F));rcases a with a | a
  ·by_cases hm:p'.mut b k
   ·rcases hm with hm | hm | hm
    ·exact .inl ⟨s k (.inl hm),j.iz k (.inl hm)⟩
    ·exact .inr (.inl hm)
    ·exact .inr (.inr hm)
   ·by_cases aq:(p.pure.step n).2.2.isSome=true/\aL d.Words k
    ·rw [t2 k hm aq.1 aq.2] at a;exact absurd rfl a
    ·rw [t3 k hm aq] at a;exact .inl ⟨q k a,O k a⟩
  ·exact .inl ⟨a.1,a.2.1⟩
 refine ⟨χ',d,p',rfl,E,C,h.mono λk _ a=>?_,Z,Xw,Xv,t1,N,λx X=>?_⟩
 ·rcases a with a | a | a
  ·exact .inl (f k (.inl a))
  ·exact .inl (f k (.inr (.inr a)))
  ·exact .inr (by rw [a];exact T)
 ·obtain ⟨d1,d2,d3,d4,d5,d6,d7⟩:=u x X;refine ⟨d1,d2,d3,d4,?_,d5,d6⟩;by_cases K:x.words=[]
  ·exact .inl K
  ·refine .inr ?_;rcases d3 with c | ⟨dm,Xx,G,_⟩
   ·exact absurd (by simpa [us] using c) K
   ·rw [G];have y:aL d.Words dm:=⟨Xx,G⟩;obtain ⟨cs,H⟩:=P dm y;have R:¬ p'.mut b dm:=by
     rintro (a | a | ⟨o,W⟩)
     ·have:=av.jm H (a▸N.aj);revert this;decide
     ·obtain ⟨Y,I⟩:=fT N.own a;have:=av.jm H I;revert this;decide
     ·rw [d7] at W;cases W
    intro c;rcases c with c | ⟨g,_,M⟩
    ·exact c (t2 dm R (by rw [X];rfl) y)
    ·exact F (by rw [<-J dm y g];exact M)
theorem b6.Vs (h:b6 A aw w aJ X) {dm:Nat} {c:cn} {x:aM} (r:X.aR[i]?=some c) (g:c.dm=some dm) (H:q<c.raw.length) (aq:lu A w d x) :
  ∃ A',Next A A' aw aw w (cu w ⟨dm,0+q * 2,none⟩ 0 d.cells)/\b6 A' aw (cu w ⟨dm,0+q * 2,none⟩ 0 d.cells) aJ { X with aR:=X.aR.set i { c with raw:=c.raw.set q d,batch:=c.batch.set q x } }:=by
 have a:=h.aW i c r;obtain ⟨E,C⟩:=a.batch dm g;rw [gM];have z:ao (λk=>aw k=.batch i) w (cu w ⟨dm,q * 2,none⟩ 0 d.cells):=(h7 w dm (q * 2) 0 d.cells).mono λk _ e=>by rw [e];exact C
 have p:=E.cu (o:=q * 2) (i:=0) (vs:=d.cells);rw [mb,HU (yd _) (by simpa [fW] using H) rfl,Kn] at p;obtain ⟨m,aU⟩:=h.move (χ':=aw) (T:=λt=>t=.batch i) z (by simp) (λ_ _ h=>h) (λ_ _ _ _=>rfl);have f1:=a1.cU m a.own a.tag (by simp) (by simp);have I:pp (gC A aw aw w) aw (cu w ⟨dm,q * 2,none⟩ 0 d.cells) i { c with raw:=c.raw.set q d,batch:=c.batch.set q x }:=by
  refine ⟨f1.1,f1.2,λj l F=>(a.lane j l F).cU m (by simp) (by simp),λG=>?_,λb u=>?_,?_,λk v y al n=>?_⟩
  ·have s:c.dm=none:=G;rw [g] at s;cases s
  ·have f:c.dm=some b:=u;rw [g] at f;simp only [fg] at f;subst f;exact ⟨p,C⟩
  ·simp [a.ds.1]
  ·rw [im] at al n;by_cases he:q=k
   ·subst he;rw [if_pos rfl,if_pos (by omega)] at al;rw [if_pos rfl,if_pos (by rw [<-a.ds.1];omega)] at n;simp only [fg] at al n;subst al;subst n;exact aq.aA m.sA m.old
   ·rw [if_neg he] at al n;exact (a.ds.2 k v y al n).aA m.sA m.old
 obtain ⟨B,D⟩:=h.q_ (χ':=aw) r (z.mono λk _ e=>.inr (by rw [e];rfl)) (λ_ _ h=>h) (λ_ _ _ _=>rfl) (λk r=>gi (h.jV r) z.size) (by have e:(fL X.aR).set i (cn.cells { c with raw:=c.raw.set q d,batch:=c.batch.set q x })=fL X.aR:=lm (by rw [u3 r];simp [cn.cells]);rw [e];exact (av.cU m h.cls h.fk (by simp) (by simp)).1) h.fk I
 exact ⟨_,B,D⟩
theorem b6.Vv (h:b6 A aw w aJ X) {c:cn} (b:X.aR[i]?=some c) (n:Nat) :
  ∃ A',Next A A' aw aw w (w.setCell ⟨X.aY,0+i * 7+4,none⟩ (.int .i64 n))/\b6 A' aw (w.setCell ⟨X.aY,0+i * 7+4,none⟩ (.int .i64 n)) aJ { X with aR:=X.aR.set i { c with waiting:=n } }:=by
 have d:ao (λk=>aw k=.aR) w (w.setCell ⟨X.aY,0+i * 7+4,none⟩ (.int .i64 n)):=(eX w X.aY _ _).mono λk _ e=>by rw [e];exact h.fk
 obtain ⟨m,aU⟩:=h.move (χ':=aw) (T:=λt=>t=.aR) d (by simp) (λ_ _ h=>h) (λ_ _ _ _=>rfl);have a:=(h.aW i c b).cU m (λt g e=>by rw [e] at g;exact g);obtain ⟨l,_⟩:=lh (k:=4) (c':={ c with waiting:=n }) h.cls b (by omega) (v:=.int .i64 n) (by simp [cn.cells]);obtain ⟨f,j⟩:=h.q_ (χ':=aw) (c':={ c with waiting:=n }) b (d.mono λk _ e=>.inl e) (λ_ _ h=>h) (λ_ _ _ _=>rfl) (λk b=>gi (h.jV b) d.size) (by rw [sK];exact l) h.fk
  ⟨a.own,a.tag,a.lane,a.none,a.batch,a.ds⟩
 exact ⟨_,f,j⟩
def bh.uC (C:bh) (q:Nat) (p:cR) (cl:cT):Option aM->bh
 |none=>C
 |some x=>{ C with az:=C.az.set q ⟨p,cl.tail⟩,batch:=C.batch.map λds=>ds.set (cl.headD 0) x,waiting:=C.waiting - 1 }
theorem Cy {R:cz} {Ya:a6} {XT:Nat->Tag} {D:ak} {H:bR} {aB:Nat} {b:cn} {c9:dk} (h:b6 Ya XT D aJ H) (XR:H.aR[i]?=some b) (XF:b.az[q]?=some c9) (Yb:b.la=some ⟨g,0,none⟩)
  (XY:av D aB d.cells jd) (X':Option aM) (aq:∀ x,X'=some x->lu Ya D d x) (Yj:X'.isSome=true->∃ dm L cl,c9.bC=L::cl/\L<b.raw.length/\b.dm=some dm/\0<b.waiting) (hlen:c9.bC.length<=1024) (YH:b.waiting<=1024)
  (Yt:∀ w' A' χ' Yo,Next Ya A' XT χ' D w'->b6 A' χ' w' aJ Yo->Yo.pure=H.pure.dO i (b.pure.uC q c9.p.pure c9.bC X')->R (.bool true) w') :
  (bif X'.isSome then (∀ E,E=D.drew->∃ O:aF,O E/\fq (some ⟨H.aY,0+i * 7,none⟩) λt=>∃ (batch:an) (qZ:Nat) (I:Nat),(∀ u,O u->u.cell? ⟨t.block,t.off+3,none⟩=some (.slice batch qZ I))/\∃ (bC:an) (n:Nat) (C:Nat),(∀ u,O u->u.cell? ⟨g,(0+q * 2)+1,none⟩=some (.slice bC n C))/\bA bC n 0 1 λXU=>∃ (Yx:Int),(∀ u,O u->u.cell? XU=some (.int .i64 Yx))/\∃ (Code:Int) (Words:an) (l:Nat) (j:Nat),(∀ u,O u->cf u ⟨aB,0,none⟩ 0 [(.int .i64 Code),(.slice Words l j)])/\bA batch qZ Yx 2 λXV=>eh E XV 0 [(.int .i64 Code),(.slice Words l j)]/\∀ F,F=cu E XV 0 [(.int .i64 Code),(.slice Words l j)]->∃ (B:an) (f:Nat) (c:Nat),F.cell? ⟨g,(0+q * 2)+1,none⟩=some (.slice B f c)/\hY B f c 1 (f:Nat) (c:Nat) 1 λYn YJ YI=>Calls prog 71 #[(.slice Yn YJ YI)] F λe G=>∃ (N:an) (s:Nat) (o:Nat),e=.returned (.slice N s o)/\(∃ u,G.cell? ⟨g,(0+q * 2)+1,none⟩=some u)/\G.frozen? ⟨g,(0+q * 2)+1,none⟩=false/\∀ y,y=G.setCell ⟨g,(0+q * 2)+1,none⟩ (.slice N s o)->fq (some ⟨H.aY,0+i * 7,none⟩) λw=>∃ (waiting:Int),y.cell? ⟨w.block,w.off+4,none⟩=some (.int .i64 waiting)/\fq (some ⟨H.aY,0+i * 7,none⟩) λa=>(∃ u,y.cell? ⟨a.block,a.off+4,none⟩=some u)/\y.frozen? ⟨a.block,a.off+4,none⟩=false/\∀ XC,XC=y.setCell ⟨a.block,a.off+4,none⟩ (.int .i64 (IntKind.i64.wrap (waiting - 1)))->R (.bool true) XC) else (R (.bool true) D)):=by
 cases Xz:X' with
 |none=>refine Yt D Ya XT H (h.refl (ao.refl _ _)) h ?_;rw [Xz];show H.pure=H.pure.dO i b.pure;have:H.pure.aR.set i b.pure=H.pure.aR:=lm (by simp [bR.pure,XR]);simp only [aE.dO,fD,this]
 |some x=>
  obtain ⟨dm,L,cl,A,Yi,Xv,YG⟩:=Yj (by rw [Xz];rfl);have Ye:=aq x Xz;intro E XI;have M:Go.bs.ai D E:=by rw [XI];exact cK _
  clear XI;have XK:=h.new M;have Xw:=ai.aj M XY;have XM:=XK.aW i b XR;have Yh:=XM.lane q c9 XF;obtain ⟨bW,XN,YB,⟨Yy,YA⟩,_,Yf⟩:=a1.row XM.own (nH b.az) (by omega) (mz XF);have U:bW=g:=by rw [Yb] at XN;simp at XN;exact XN.symm
  subst U;have XP:(is (c9.bC.map Int.ofNat))[0]?=some (.int .i64 L):=by rw [A];rfl
  refine ⟨λz=>Go.bs.ai E z,ao.refl _ _,some ⟨dm,0,none⟩,b.raw.length,b.raw.length,λz au=>(XK.new au).iy (k:=3) XR (by simp [cn.cells,Xv]),c9.kN,c9.bC.length,c9.ln,λz au=>jQ au (Yf 1 _ rfl) id,?_⟩;refine s9 (i:=0) Yh.bC XP rfl λXU XL Yz=>⟨L,λz au=>jQ au XL id,d.Code,d.Words,d.cQ,d.cJ,λz au=>sX (ai.aj au Xw),ej (by omega) (by omega) ?_⟩
  rw [fD];obtain ⟨YK,X_,Z⟩:=XK.Vs (q:=L) XR Xv Yi (Ye.aA (ao.b9 M) λ_ _ h=>h);refine ⟨gq (vs:=d.cells) (XM.batch dm Xv).1 ?_ (bT.single d),?_⟩
  ·rw [mx (yd _)];simp [fW,bT.cells];omega
  intro F XJ;have X:F=cu E ⟨dm,0+L * 2,none⟩ 0 d.cells:=XJ;rw [<-X] at X_ Z;clear X;clear XJ;have Q:(H.aR.set i { b with raw:=b.raw.set L d,batch:=b.batch.set L x })[i]?=some { b with raw:=b.raw.set L d,batch:=b.batch.set L x }:=by simp [b3 XR]
  have T:=Z.aW i _ Q;have XO:=T.lane q c9 XF;obtain ⟨Yc,XZ,_,⟨Yq,X0⟩,_,X2⟩:=a1.row T.own (nH b.az) (by omega) (mz XF);have U:Yc=bW:=by have:b.la=some ⟨Yc,0,none⟩:=XZ;rw [Yb] at this;simp at this;exact this.symm
  subst U;refine ⟨c9.kN,c9.bC.length,c9.ln,X2 1 _ rfl,?_⟩;have W:=XO.bC;rcases W.2 with ⟨_,Ys,_⟩ | ⟨bV,Yw,X5,YC,X6,YE,YD,YF⟩
  ·rw [A] at Ys;cases Ys
  rw [X5];have Yu:0<c9.bC.length:=by rw [A];simp
  refine kM (by omega) (by omega) (by omega) (by omega) X6 ?_;intro Yn X9;have Yk:bk F Yn (is (cl.map Int.ofNat)):=by
   by_cases XH:cl=[]
   ·rw [XH];exact .inl rfl
   ·rcases X9 with e | ⟨e,_⟩
    ·rw [e];have:=W.rd;rw [X5] at this;have:=this.drop 1;rw [A] at this;simpa [is] using this
    ·exfalso;rw [A] at e;simp at e;exact XH (fF (by omega))
  have X7:(Int.toNat (c9.bC.length:Int)) - Int.toNat 1=cl.length:=by rw [A];simp
  rw [X7];refine aD (IZ (by simp [is]) Yk (KE _) (by rw [A] at hlen;simp at hlen <;> omega) (λe=>by rcases X9 with Yp | ⟨_,Yp⟩<;>rw [Yp] at e<;>cases e)) ?_;rintro r G ⟨XS,rc,rfl,XG,XA,K,_⟩;have Yd:=Z.new XG;have J:=Yd.aW i _ Q;obtain ⟨XW,XD,_,⟨Yr,X1⟩,_,X3⟩:=a1.row J.own (nH b.az) (by omega) (mz XF);have U:XW=Yc:=by have:b.la=some ⟨XW,0,none⟩:=XD;rw [Yb] at this;simp at this;exact this.symm
  subst U;refine ⟨_,_,_,rfl,⟨_,X3 1 _ rfl⟩,X1.frozen,?_⟩;intro y Y;have Yg:XT XW=.az i:=J.tag XW ⟨0,XD⟩;have XE:ao (λz=>z=XW) G y:=by rw [Y];exact eX _ _ _ _
  have Yv:∀ z,aL XS z->XT z=.bC i q\/G.heap.size<=z\/(F.heap.size<=z/\z<G.heap.size):=λz au=>.inr (by have:=K z au;omega)
  have Xy:a1 y lP 2 b.la b.az.length b.lc ((hc b.az).set q (dk.cells { c9 with bC:=cl,kN:=XS,ln:=rc })).flatten:=by have X4:=J.own;have V:a1 G lP 2 b.la b.az.length b.lc (hc b.az).flatten:=X4;rw [Yb] at V ⊢;rw [Y];have:=a1.setCell V (i:=q * 2+1) (by have:=b3 XF;omega) (.slice XS cl.length rc);rw [y1 (nH _) _ (mz XF) (by omega)] at this;simpa [dk.cells] using this
  have XB:a1 y mj 1 XS cl.length rc (is (cl.map Int.ofNat)):=XA.aA XE λz au e=>by have YN:=K z au;have YO:=X0.lt;omega
  clear Y;have Xx:ao (λz=>ra i q (XT z)) F y:=(ao.b9 XG).trans XE λz _ e=>.inr (by rw [e];exact Yg)
  obtain ⟨YL,YP,Yl,P⟩:=Z.Hh Q XF Xx (λz au=>.inr (K z au)) XB Xy;rw [jv] at P;have S:(H.aR.set i { b with raw:=b.raw.set L d,batch:=b.batch.set L x,az:=b.az.set q { c9 with bC:=cl,kN:=XS,ln:=rc } })[i]?=some { b with raw:=b.raw.set L d,batch:=b.batch.set L x,az:=b.az.set q { c9 with bC:=cl,kN:=XS,ln:=rc } }:=by simp [b3 XR]
  refine ⟨b.waiting,P.iy (k:=4) S rfl,⟨_,P.iy (k:=4) S rfl⟩,P.cls.frozen,?_⟩;rw [show IntKind.i64.wrap ((b.waiting:Int) - 1)=((b.waiting - 1:Nat):Int) by rw [bH (by omega) (by omega)];omega];obtain ⟨YM,Ym,XX⟩:=P.Vv S (b.waiting - 1);intro XC X8;rw [jv] at XX;have XQ:XC=y.setCell ⟨H.aY,0+i * 7+4,none⟩ (.int .i64 (b.waiting - 1:Nat)):=X8;rw [XQ];refine Yt _ _ _ _ ((((h.refl M).trans X_).trans Yl).trans Ym) XX ?_;refine (bR.x8 H i _).trans ?_;congr 1;rw [Xz];simp [cn.pure,bh.uC,Xv,A,iH,dk.pure]
end
section
theorem a1.Rq {i:TypeInfo} (D:P.underlying t=some (.slice e)) (C:P.info? e=some i) (K:0<i.size)
  (p:a1 w e i.size (some ⟨g,0,none⟩) n cap xs) {s:aX} {news:ax} (o:news.length=m * i.size) (J:bk w (some s) news) (E:∀ u ∈ news,single u=true) (a:n+m<=cap) :
  ∃ w',(Builtin.append_ #[t,t] ty #[.slice (some ⟨g,0,none⟩) n cap,.slice (some s) m c]).run P w=.ok (.slice (some ⟨g,0,none⟩) (n+m) cap) w'/\a1 w' e i.size (some ⟨g,0,none⟩) (n+m) cap (xs++news)/\ao (λk=>k=g) w w':=by
 have hlen:(xs++news).length=(n+m) * i.size:=by rw [dy,p.1,o,rr]
 by_cases hm:m=0
 ·subst hm;have G:news=[]:=fF (by simpa using o);subst G;refine ⟨w,?_,by simpa using p,ao.refl _ _⟩;have hle:=p.le;simp [Builtin.append_,run_underlying D,sizeOf,typeInfo,C,Builtin.lenOf,hle,Builtin.firstCells,loadCells,loadCellsFrom,storeCells]
 ·have A:news≠[]:=by
   intro x;have q:m * i.size=0:=by rw [<-o,x];rfl
   rcases Nat.mul_eq_zero.1 q with h | h<;>omega
  rcases J with x | ⟨sb,so,he,d⟩
  ·exact absurd x A
  simp at he;subst he;have f:∀ j u,news[j]?=some u->w.cell? ((⟨sb,so,none⟩:aX).add j)=some u:=λj u hu=>by rw [ll];exact d j u hu
  have r:∀ u ∈ news,u.oneCell'=true:=λu hu=>HF (E u hu)
  rcases p.2 with ⟨q,_⟩ | ⟨bW,cur,he,B,H,y,z,l⟩
  ·cases q
  simp at he;subst he;have b:n * i.size+news.length<=cur.toArray.size:=by rw [o,List.size_toArray,z,<-rr];exact tj _ a
  have I:=run_append_room (P:=P) w t ty e i D C g n cap cur.toArray B ⟨sb,so,none⟩ m c news o f r a b;refine ⟨_,I,⟨hlen,.inr ⟨g,_,rfl,setRow_heap w g cur.toArray _ e _ B,a,y,?_,?_⟩⟩,⟨rfl,rfl,rfl,by simp,λk _ F=>setRow_other w g k _ (λe=>F e)⟩⟩
  ·simp only [dy,iG,lH] at *;simp at b <;> omega
  ·rw [l,<-hlen];exact List.take_left
theorem Jr {i:TypeInfo} {z:a4} (h:P.underlying t=some (.slice e)) (g:P.info? e=some i) (au:i.zero=some z) (d:z.cells=#[z]) {o:Nat} (hw:eh w ⟨b,o,none⟩ 0 [z]) :
  (Builtin.clear_ #[t] ty #[.slice (some ⟨b,o,none⟩) 1 c]).run P w=.ok (.tuple #[]) (cu w ⟨b,o,none⟩ 0 [z]):=by
 have a:=sT (P:=P) hw;have f:(Builtin.zeroCells z.cells 1).toList=[z]:=by rw [d];simp [Builtin.zeroCells]
 simp [Builtin.clear_,run_underlying h,zeroValue,typeInfo,g,au,f,a]
theorem a1.VP {e:Nat} (h:a1 w e 1 a n cap xs) (i:a≠none) (hm:m<=n):a1 w e 1 a m cap (xs.take m):=by
 rcases h.2 with ⟨f,_⟩ | ⟨g,cur,he,j,k,c,d,b⟩
 ·exact absurd f i
 ·refine ⟨by have:=h.1;simp;omega,.inr ⟨g,cur,he,j,by omega,c,d,?_⟩⟩;rw [<-b,List.take_take,Nat.min_eq_left (by omega),Nat.mul_one]
theorem Lx (h:a1 w oo 1 a n cap xs) (XD:i<n) (Z:∀ u ∈ xs,single u=true) :
  bb 89 [.slice a n cap,.int .i64 i,.int .i64 (i+1:Nat)] w λv w'=>v=.slice a (n - 1) cap/\a1 w' oo 1 a (n - 1) cap (xs.eraseIdx i)/\ao (aL a) w w':=by
 refine bd Tryz.func89 ?_;rw [Rz];have Xz:=h.1;rcases h.2 with ⟨_,U,_⟩ | ⟨g,cur,rfl,XC,p,G,Xx,M⟩
 ·omega
 have V:cap<=9223372036854775807:=G;refine kM (by omega) (by omega) (by omega) (by omega) p ?_;intro XE _;refine d' (λhe=>by omega) (λ_=>?_)
 intro w1 D;have l:ai w w1:=by rw [D];exact cK _
 clear D;refine kM (by omega) (by omega) (by omega) (by omega) p ?_;intro O E;refine kM (by omega) (by omega) (by omega) (by omega) p ?_;intro Q j;have X:O=some ⟨g,0,none⟩:=by rcases E with e | ⟨_,e⟩<;>simpa using e
 subst X;simp only [fD,Int.toNat_zero,Nat.sub_zero];obtain ⟨s2,rfl⟩:∃ s,Q=some s:=by rcases j with e | ⟨_,e⟩<;>exact ⟨_,e⟩
 obtain ⟨XA,C,au,q,Xw⟩:=fV (T:=103) (z:=.pointer none) (n:=1) (m:=8) (by kernel_rfl);have K:a1 w1 oo XA.size (some ⟨g,0,none⟩) i cap (xs.take i):=by rw [q];exact a1.VP (h.new l) (by simp) (by omega)
 have L:bk w1 (some s2) (xs.drop (i+1)):=by
  by_cases aq:xs.drop (i+1)=[]
  ·rw [aq];exact .inl rfl
  ·rcases j with e | ⟨e,_⟩
   ·rw [e];have:=(h.new l).rd.drop (i+1);simpa using this
   ·exfalso;apply aq;apply BF;omega
 obtain ⟨W,f,b,I⟩:=a1.Rq (P:=prog) (t:=106) (ty:=106) Tryz.underlying106 C (by omega) K (s:=s2) (m:=n - (i+1)) (c:=cap - (i+1)) (news:=xs.drop (i+1)) (by rw [q];simp;omega) L
  (λu hu=>Z u (o3 hu)) (by omega)
 rw [q] at b;have H:i+(n - (i+1))=n - 1:=by omega
 rw [H] at f b;refine ⟨_,_,_,W,f,?_⟩;refine kM (by omega) (by omega) (by omega) (by omega) (by omega) ?_;intro R F;have Y:R=some ⟨g,0+(n - 1) * 1,none⟩:=by
  rcases F with e | ⟨e,_⟩
  ·simpa using e
  ·omega
 subst Y;have J:(Int.toNat (n:Int)) - Int.toNat ((n - 1:Nat):Int)=1:=by omega
 rw [J];rcases b.2 with ⟨U,_⟩ | ⟨XB,S,y,A,B,r,x,d⟩
 ·cases U
 simp at y;subst y;have N:eh W ⟨g,0+(n - 1) * 1,none⟩ 0 [.pointer none]:=gq A (by simp;omega) (by simp [single]);refine ⟨_,_,Jr (P:=prog) Tryz.underlying106 C au rfl N,rfl,?_,?_⟩
 ·have Xv:=A.cu (o:=0+(n - 1) * 1) (i:=0) (vs:=[.pointer none]);have Xy:xs.take i++xs.drop (i+1)=xs.eraseIdx i:=(List.eraseIdx_eq_take_drop_succ ..).symm;rw [Xy] at b d;refine ⟨b.1,.inr ⟨g,_,rfl,Xv,B,r,by rw [HE];exact x,?_⟩⟩;rw [pB (by simp;omega)];rw [<-d];rw [lF,List.take_append_of_le_length (by simp;omega),List.take_take,Nat.min_eq_left (by omega)]
 ·exact ((ao.b9 l).trans I λk _ e=>⟨0,by rw [e]⟩).trans (h7 _ _ _ _ _) λk _ e=>⟨0,by rw [e]⟩
def l9 (b n:Nat) (t:Tag):Prop:=t=.gX b\/t=.word n
theorem Kr {α:Type} {l:List α} (h:l.Nodup) {x:α} (g:l[i]?=some x) (k:l[j]?=some x):i=j:=by
 obtain ⟨b,c⟩:=lG.1 g;obtain ⟨d,e⟩:=lG.1 k;have f:=BA.1 h;rcases Nat.lt_trichotomy i j with a | a | a
 ·exact absurd (c.trans e.symm) (f i j b d a)
 ·exact a
 ·exact absurd (e.trans c.symm) (f j i d b a)
theorem yg {α β:Type} (f:α->β):∀ (l:List α) (i:Nat),(l.map f).eraseIdx i=(l.eraseIdx i).map f
 | [],_=>rfl
 | _::_,0=>rfl
 |x::l,i+1=>by simp [yg f l i]
theorem b6.Vt {χ':Nat->Tag} (h:b6 A aw w aJ X) (o:X.bU[i]?=some (b,p)) (u:X.nodes[n]?=some y)
  (c:ao (λk=>l9 b n (aw k)) w w') (D:∀ k,k<w.heap.size->χ' k≠.cx->aw k≠.cx) (r:∀ k,k<w.heap.size->aw k≠.gX b->χ' k=aw k) (f:∀ k,χ' k≠.cx->k<w'.heap.size)
  (l:ea w' y.b y.aH n') (E:dM (gC A aw χ' w) w' b p') (F:∀ k,p'.mut b k->χ' k=.gX b) :
  Next A (gC A aw χ' w) aw χ' w w'/\b6 (gC A aw χ' w) χ' w' aJ { X with nodes:=X.nodes.set n { y with n:=n' },bU:=X.bU.set i (b,p') }:=by
 obtain ⟨m,aU⟩:=h.move (T:=l9 b n) c (by simp [l9]) D (λk j l _=>r k j λe=>l (.inl e));have f1:=av.cU m h.ck h.gT (by simp [l9]) (by simp);have f2:=a1.cU m h.nodes h.jY (by simp [l9]) (by simp);have f3:=a1.cU m h.gb h.ki (by simp [l9]) (by simp);have f4:=av.cU m h.cls h.fk (by simp [l9]) (by simp);have a:=h.node n y u;have B:(X.bU.set i (b,p')).map Prod.fst=X.bU.map Prod.fst:=by rw [iH];exact lm (by simp [o])
 refine ⟨aU,m.mo,λk d=>?_,?_,f1.2,?_,f2.2,?_,f4.1,f4.2,λq z au=>(h.aW q z au).cU m (λt s C=>?_),?_,f3.2,λx G=>?_,?_⟩
 ·rcases d with d | d
  ·exact f k d
  ·exact gi d.1 c.size
 ·simpa [bR.cells] using f1.1
 ·have e:((X.nodes.set n { y with n:=n' }).map λx=>ptr x.b)=X.nodes.map λx=>ptr x.b:=by rw [iH];exact lm (by simp [u])
  rw [e];simpa using f2.1
 ·intro q z au;simp only [im] at au;split at au
  ·rename_i he;subst he;split at au
   ·simp only [fg] at au;subst au;exact ⟨l,by rw [r _ a.node.node.lt (by rw [a.tag];simp)];exact a.tag,by rw [r _ a.node.words.lt (by rw [a.j5];simp)];exact a.j5⟩
   ·cases au
  ·rename_i he;exact (h.node q z au).cU m (by simp [l9]) (by simp [l9];exact λe=>he e.symm)
 ·rcases C with e | e<;>(rw [e] at s;cases s)
 ·have e:((X.bU.set i (b,p')).map λp=>ptr p.1)=X.bU.map λp=>ptr p.1:=by rw [iH];exact lm (by simp [o])
  rw [e];simpa using f3.1
 ·obtain ⟨k,c⟩:=ei.1 G;simp only [im] at c;split at c
  ·rename_i he;subst he;split at c
   ·simp only [fg] at c;subst c;exact ⟨E,F⟩
   ·cases c
  ·rename_i he;have g:=h.eC x (b5 c);refine dM.cU m g.1 g.2 ?_ (by simp);rintro (e | e)
   ·simp at e;exact he (Kr (x:=b) h.nodup (by simp [o]) (by simp [c,e]))
   ·cases e
 ·show ((X.bU.set i (b,p')).map Prod.fst).Nodup;rw [B];exact h.nodup
theorem b6.Ru (h:b6 A aw w aJ X) (l:i<X.bU.length) (c:ao (λk=>aw k=.gb\/aw k=.ck) w w')
  (n:a1 w' oo 1 X.dw (X.bU.length - 1) X.gW ((X.bU.map λp=>ptr p.1).eraseIdx i)) (j:av w' aJ (X.cells.set 3 (.slice X.dw (X.bU.length - 1) X.gW)) lO) :
  ∃ A',Next A A' aw aw w w'/\b6 A' aw w' aJ { X with bU:=X.bU.eraseIdx i }:=by
 obtain ⟨m,aU⟩:=h.move (T:=λt=>t=.gb\/t=.ck) (χ':=aw) c (by simp) (λ_ _ h=>h) (λ_ _ _ _=>rfl);have f:(X.bU.eraseIdx i).length=X.bU.length - 1:=List.length_eraseIdx_of_lt l;refine ⟨_,aU,m.mo,λk a=>?_,?_,h.gT,(a1.cU m h.nodes h.jY (by simp) (by simp)).1,h.jY,λq z au=>(h.node q z au).cU m (by simp) (by simp),(av.cU m h.cls h.fk (by simp) (by simp)).1,h.fk,λq z au=>(h.aW q z au).cU m (λt d g=>?_),?_,h.ki,λx o=>?_,?_⟩
 ·rcases a with a | a
  ·exact gi (h.jV a) c.size
  ·exact gi a.1 c.size
 ·simpa [bR.cells,f] using j
 ·rcases g with e | e<;>(rw [e] at d;cases d)
 ·show a1 w' oo 1 X.dw (X.bU.eraseIdx i).length X.gW ((X.bU.eraseIdx i).map λp=>ptr p.1);rw [f,<-yg];exact n
 ·have b:=h.eC x (yQ o);exact dM.cU m b.1 b.2 (by simp) (by simp)
 ·show ((X.bU.eraseIdx i).map Prod.fst).Nodup;rw [<-yg];exact (List.eraseIdx_sublist ..).nodup h.nodup
theorem Js (l:List (Nat×dF)):∀ u ∈ l.map (λp=>ptr p.1),single u=true:=by intro u hu;simp only [cZ] at hu;obtain ⟨p,_,rfl⟩:=hu;rfl
theorem OL (h:b6 A aw w aJ X) (c:Int) (t:c<9223372036854775807):bb 62 [ptr aJ,.int .i64 c] w λv w'=>
  v=.bool (X.pure.drop c).1/\dR A aw w aJ (X.pure.drop c).2 w' λ_=>True:=by
 refine bd Tryz.func62 ?_;rw [ptr,S4];have s:X.pure.bU.length=X.bU.length:=by simp [bR.pure]
 refine bc (λo=>?_) (λo=>⟨_,_,_,h.ck.cell rfl,bc (λq=>?_) (λq=>?_)⟩)
 ·have aq:X.pure.drop c=(false,X.pure):=by unfold aE.drop;rw [if_pos (.inl o)]
  rw [aq];exact ⟨rfl,dR.same h (ao.refl _ _) trivial⟩
 ·have aq:X.pure.drop c=(false,X.pure):=by unfold aE.drop;rw [if_pos (.inr (by omega))]
  rw [aq];exact ⟨rfl,dR.same h (ao.refl _ _) trivial⟩
 ·have aq:X.pure.drop c=(true,{ X.pure with bU:=X.pure.bU.eraseIdx c.toNat }):=by unfold aE.drop;rw [if_neg (by omega)]
  rw [aq];obtain ⟨i,rfl⟩:∃ i:Nat,c=i:=⟨c.toNat,by omega⟩;refine ⟨_,_,_,h.ck.cell rfl,?_⟩;rw [show IntKind.i64.wrap ((i:Int)+1)=((i+1:Nat):Int) by rw [bH (by omega) (by omega)];rfl];refine aD (Lx h.gb (by omega) (Js _)) ?_;rintro v w1 ⟨rfl,n,l⟩;have a:ao (λk=>aw k=.gb) w w1:=l.mono λk _ g=>h.ki k g
  have b:=a.aj h.ck (by rw [h.gT];simp);refine ⟨_,_,_,rfl,⟨_,b.cell (i:=3) rfl⟩,b.frozen,?_⟩;intro p d;have f:ao (λk=>k=aJ) w1 p:=by rw [d];exact eX _ _ _ _
  have j:av p aJ (X.cells.set 3 (.slice X.dw (X.bU.length - 1) X.gW)) lO:=by rw [d];exact b.setCell _
  clear d;obtain ⟨A',aU,r⟩:=h.Ru (i:=i) (by omega) ((a.mono λk _ e=>.inl e).trans f λk _ e=>.inr (by rw [e];exact h.gT)) (n.aA f λk g e=>by have:=h.ki k g;rw [e,h.gT] at this;cases this) j;refine ⟨rfl,_,_,_,aU,r,?_,trivial⟩;simp [bR.pure,yg]
theorem dR.trans {A a:a6} {aw c:Nat->Tag} {w w1 b:ak} {aJ:Nat} {F:aE} {K:(a6)->Prop} (n:Next A a aw c w w1) (h:dR a c w1 aJ F b K):dR A aw w aJ F b K:=by obtain ⟨d,j,e,fA,f,i,g⟩:=h;exact ⟨d,j,e,n.trans fA,f,i,g⟩
theorem NH {e sz:Nat} (h:a1 w e sz a n cap xs):n<=9223372036854775807:=by
 rcases h.2 with ⟨_,c,_⟩ | ⟨g,cur,_,_,d,b,_⟩
 ·omega
 ·have:cap<=9223372036854775807:=b;omega
theorem IP {α:Type} {l:List α} {x y:α} (h:l[i]?=some x):(l.set i y)[i]?=some y:=by simp [b3 h]
theorem Cz {α:Type}:∀ (l:List α) (i:Nat) (x:α),(l.set i x).eraseIdx i=l.eraseIdx i
 | [],_,_=>rfl
 | _::_,0,_=>rfl
 |y::l,i+1,x=>by simp [Cz l i x]
theorem IQ (h:b6 A aw w aJ X) (O:n9 X.pure) (i:Nat):bb 69 [ptr aJ,.int .i64 i] w λv w'=>
  v=.bool (X.pure.iX i).1/\dR A aw w aJ (X.pure.iX i).2 w' λ_=>True:=by
 refine bd Tryz.func69 ?_;rw [ptr,S5];have XC:X.pure.bU.length=X.bU.length:=by simp [bR.pure]
 refine ⟨_,_,_,h.ck.cell rfl,bc (λY=>?_) (λY=>?_)⟩
 ·have aq:X.pure.iX i=(false,X.pure):=by unfold aE.iX;rw [iF (by omega)]
  rw [aq];exact ⟨rfl,dR.same h (ao.refl _ _) trivial⟩
 have J:i<X.bU.length:=by omega
 obtain ⟨b,p,x⟩:∃ b p,X.bU[i]?=some (b,p):=⟨X.bU[i].1,X.bU[i].2,by simp [J]⟩;have XD:=h.eC _ (b5 x);obtain ⟨XA,XB,E⟩:=O.eC p.pure (b5 (i:=i) (by simp [bR.pure,x]));obtain ⟨n,Xz⟩:∃ n:Nat,p.node=n:=⟨p.node.toNat,by have:p.pure.node=p.node:=rfl;omega⟩;have M:n<X.nodes.length:=by
  have e:p.pure.node=p.node:=rfl;have T:X.pure.nodes.length=X.nodes.length:=by simp [bR.pure]
  omega
 obtain ⟨y,G⟩:∃ y,X.nodes[n]?=some y:=⟨X.nodes[n],by simp [M]⟩;have XE:=h.node n y G;refine ⟨_,_,_,h.ck.cell rfl,?_⟩;refine s9 (v:=ptr b) (i:=i) h.gb (by simp [x]) rfl λbx t _=>⟨some ⟨b,0,none⟩,t,?_⟩
 intro w1 F;have l:ai w w1:=by rw [F];exact cK _
 clear F;have a:=h.new l;have c:=a.eC _ (b5 x);have f:=a.node n y G;refine ⟨λu=>ao (λk=>l9 b n (aw k)) w1 u,ao.refl _ _,_,_,_,λu hu=>(hu.aj a.ck (by rw [a.gT];simp [l9])).cell (i:=1) rfl,?_⟩;refine aD (D9 c.1) ?_;rintro r XF ⟨rfl,rfl⟩;refine ⟨_,rfl,ao.refl _ _,?_⟩;refine s9 (v:=ptr y.b) (i:=n) a.nodes (by simp [G]) Xz λU o C=>⟨some ⟨y.b,0,none⟩,λu hu=>jQ hu o ?_,?_⟩
 ·obtain ⟨g,Xy,rfl⟩:=C;rw [show aw _=_ from a.jY g ⟨0,Xy⟩];simp [l9]
 refine aD (D_ c.1 f.node (a.e9 _ (by rw [f.j5];simp)) (a.e9 _ (by rw [f.tag];simp)) (λXv=>by have:=c.2 _ (.inr (.inr Xv));rw [f.j5] at this;cases this) E) ?_;intro r XG Z;obtain ⟨χ',d,p',rfl,D,q,K,I,P,L,R,H,Xx⟩:=Cx c.1 c.2 (by simp) (λk Xw=>a.jV Xw) a.e9 f.j5 Z;obtain ⟨aU,s⟩:=a.Vt x G K I P L q H R;refine ⟨_,_,_,_,_,rfl,?_⟩;have N:(X.bU.set i (b,p'))[i]?=some (b,p'):=IP x;refine aD (ye (s.eC _ (b5 N)).1) ?_;rintro r XH ⟨rfl,rfl⟩;have Q:X.pure.iX i=(true,{ X.pure with nodes:=X.pure.nodes.set n (p.pure.step y.n).2.1,bU:=if (p.pure.step y.n).1.a3.length=0 then X.pure.bU.eraseIdx i else X.pure.bU.set i (p.pure.step y.n).1 }):=by
  unfold aE.iX;have V:X.pure.bU[i]?=some p.pure:=by simp [bR.pure,x]
  have T:p.pure.node.toNat=n:=by show p.node.toNat=n;omega
  have W:X.pure.nodes[n]?=some y.n:=by simp [bR.pure,G]
  simp only [V,T,W]
 rw [Q];have al:p'.a3=(p.pure.step y.n).1.a3:=by rw [<-D];rfl
 refine ⟨_,rfl,d' (λau=>?_) (λau=>?_)⟩
 ·have B:(p.pure.step y.n).1.a3.length=0:=by rw [<-al];have S:(p'.a3.length:Int)=0:=au;omega
  refine aD (OL s i (by have:=NH h.gb;omega)) ?_;rintro v XI ⟨rfl,z⟩;refine ⟨_,rfl,rfl,?_⟩;have j:=dR.trans ((h.refl l).trans aU) z;have e:(bR.pure { X with nodes:=X.nodes.set n { y with n:=(p.pure.step y.n).2.1 },bU:=X.bU.set i (b,p') }).drop i=(true,{ X.pure with nodes:=X.pure.nodes.set n (p.pure.step y.n).2.1,bU:=X.pure.bU.eraseIdx i }):=by unfold aE.drop;rw [if_neg (by simp [bR.pure];omega)];simp [bR.pure,iH,Cz]
  rw [e] at j;rw [if_pos B];exact j
 ·have B:¬ (p.pure.step y.n).1.a3.length=0:=by rw [<-al];have S:¬ (p'.a3.length:Int)=0:=au;omega
  rw [if_neg B];refine ⟨rfl,_,_,_,(h.refl l).trans aU,s,?_,trivial⟩;simp [bR.pure,iH,D]
theorem bR.Vu {c:cn} {l:dk} :
  (bR.pure { X with nodes:=X.nodes.set n { y with n:=n' },aR:=X.aR.set i { c with az:=c.az.set j { l with p:=p' } } }) =
   {X.pure with nodes:=X.pure.nodes.set n n',aR:=X.pure.aR.set i { c.pure with az:=c.pure.az.set j ⟨p'.pure,l.bC⟩ } }:=by
 simp [bR.pure,iH,cn.pure,dk.pure]
end
end Go.Proofs.YtmkljjbioomepaaGreat
