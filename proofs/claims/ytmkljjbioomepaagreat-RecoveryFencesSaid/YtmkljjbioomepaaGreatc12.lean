import Derived.Test.YtmkljjbioomepaaGreatc11
set_option linter.all false
set_option maxHeartbeats 4000000
set_option maxRecDepth 100000
namespace Go.Proofs.YtmkljjbioomepaaGreat
open Go.Proofs.Tryz Go.br
variable {A:a5} {P:Program} {X:bQ} {a:al} {b c cap aN g i j m n q:Nat} {d:bR} {e t ty:TypeId} {n':a0} {p p':dE} {w w':ak} {xs:ax} {y:g_} {aw:Nat->Tag}
section
theorem Ij (h:xs.length=n) (s:bh w a xs) (p:∀ u ∈ xs,single u=true) (x:n<=1000000000) (l:a=none->n=0) :
  a_ 71 [.slice a n c] w λv w'=>∃ e cap,v=.slice e n cap/\tc w w' 3 1 a e n cap xs:=by
 refine bc Tryz.func71 ?_;rw [R7];obtain ⟨i,q,au,d,g⟩:=fL (T:=3) (z:=.int .i64 0) (n:=1) (m:=8) (by kernel_rfl);cases a with
 |none=>
  refine eB rfl ⟨none,0,by rw [l rfl],ao.refl _ _,?_,?_,by simp⟩
  ·rw [l rfl] at h ⊢;rw [fB h];exact a2.nil _ _ _
  ·rintro k ⟨o,r⟩;cases r
 |some a=>refine cR rfl ?_;rintro b1 w1 rfl rfl;obtain ⟨e,b,w',f,j⟩:=xv (t:=22) (ty:=22) (z:=.int .i64 0) (n:=n) (c:=c) (w:=w) (a:=a) (xs:=xs) Tryz.underlying22 q au (by rw [d];rfl) (by omega) (by rw [h,d];omega) s p (by omega) (by rw [g];omega);exact ⟨e,n,b,w',f,e,b,rfl,by rw [d] at j;exact j⟩
theorem Bk {fy fo:Nat} {n:a0} {r:a4} {t k':Tag} (j:dM A w b p) (f:∀ k,p.mut b k->aw k=t) (F:t≠.cr) (q:∀ k,aw k≠.cr->k<w.heap.size) (O:∀ k,aw k≠.cr->A k) (T:aw fo=k')
  (S:xR A b fy fo p n w r w') :
  ∃ (χ':Nat->Tag) (d:bR) (p':dE),r=.tuple #[d.val,.bool (p.pure.step n).2.2.isSome]/\p'.pure=(p.pure.step n).1/\dY w' fy fo (p.pure.step n).2.1/\ao (λk=>aw k=t\/aw k=k') w w'/\
   (∀ k,k<w.heap.size->χ' k≠.cr->aw k≠.cr)/\(∀ k,k<w.heap.size->aw k≠t->χ' k=aw k)/\(∀ k,χ' k≠.cr->k<w'.heap.size)/\(∀ k,p'.mut b k->χ' k=t)/\dM (gi A aw χ' w) w' b p'/\
   ∀ x,(p.pure.step n).2.2=some x->k1 (gi A aw χ' w) w' d x:=by
 classical
 obtain ⟨d,p',rfl,E,C,u,Q,l,h,U,V,P⟩:=S;have s:∀ k,p.mut b k->k<w.heap.size:=by
  rintro k (rfl | a | a)
  ·exact j.aj.lt
  ·exact j.own.lt a
  ·exact j.j7.lt a
 have i:∀ k,p'.mut b k->p.mut b k\/w.heap.size<=k:=by
  rintro k (a | a | a)
  ·exact .inl (.inl a)
  ·rcases U with e | e
   ·exact .inl (.inr (.inl (e▸a)))
   ·exact .inr (e k a)
  ·rcases V with e | e
   ·exact .inl (.inr (.inr (e▸a)))
   ·exact .inr (e k a)
 have D:=l (λk=>(k<w.heap.size/\A k)\/aK p'.c1 k\/aK p'.de k) (λk a=>a) (λk a=>by
  rcases a with a | a | a
  ·exact .inl ⟨s k (.inl a),j.ia k (.inl a)⟩
  ·exact .inr (.inl a)
  ·exact .inr (.inr a))
 have B:∀ k,p'.mut b k->k<w'.heap.size:=by
  rintro k (rfl | a | a)
  ·exact D.aj.lt
  ·exact D.own.lt a
  ·exact D.j7.lt a
 let χ':Nat->Tag:=λk=>if p'.mut b k then t else if (p.pure.step n).2.2.isSome=true/\aK d.Words k then .cr else aw k
 have t1:∀ k,p'.mut b k->χ' k=t:=λk a=>if_pos a
 have t2:∀ k,¬ p'.mut b k->(p.pure.step n).2.2.isSome=true->aK d.Words k->χ' k=.cr:=λk g L M=>by show (if p'.mut b k then t else if (p.pure.step n).2.2.isSome=true/\aK d.Words k then Tag.cr else aw k)=_;rw [if_neg g,if_pos ⟨L,M⟩]
 have t3:∀ k,¬ p'.mut b k->¬ ((p.pure.step n).2.2.isSome=true/\aK d.Words k)->χ' k=aw k:=λk g L=>by show (if p'.mut b k then t else if (p.pure.step n).2.2.isSome=true/\aK d.Words k then Tag.cr else aw k)=_;rw [if_neg g,if_neg L]
 have J:∀ k,aK d.Words k->k<w.heap.size->aw k=t:=λk a z=>by
  rcases Q k a with g | g
  ·exact f k (.inr (.inr g))
  ·omega
 have Z:∀ k,k<w.heap.size->χ' k≠.cr->aw k≠.cr:=by
  intro k z c;by_cases hm:p'.mut b k
  ·rcases i k hm with g | g
   ·rw [f k g];exact F
   ·omega
  ·by_cases ar:(p.pure.step n).2.2.isSome=true/\aK d.Words k
   ·rw [t2 k hm ar.1 ar.2] at c;exact absurd rfl c
   ·rw [t3 k hm ar] at c;exact c
 have Vs:∀ k,k<w.heap.size->aw k≠t->χ' k=aw k:=by
  intro k z c;by_cases hm:p'.mut b k
  ·rcases i k hm with g | g
   ·exact absurd (f k g) c
   ·omega
  ·by_cases ar:(p.pure.step n).2.2.isSome=true/\aK d.Words k
   ·exact absurd (J k ar.2 z) c
   ·exact t3 k hm ar
 have Vr:∀ k,χ' k≠.cr->k<w'.heap.size:=by
  intro k c;by_cases hm:p'.mut b k
  ·exact B k hm
  ·by_cases ar:(p.pure.step n).2.2.isSome=true/\aK d.Words k
   ·rw [t2 k hm ar.1 ar.2] at c;exact absurd rfl c
   ·rw [t3 k hm ar] at c;exact fX (q k c) h.size
 have N:dM (gi A aw χ' w) w' b p':=by
  refine l _ (λk a=>?_) (λk a=>.inl (by rw [t1 k a];exact F));rcases a with a | a
  ·by_cases hm:p'.mut b k
   ·rcases hm with hm | hm | hm
    ·exact .inl ⟨s k (.inl hm),j.ia k (.inl hm)⟩
    ·exact .inr (.inl hm)
    ·exact .inr (.inr hm)
   ·by_cases ar:(p.pure.step n).2.2.isSome=true/\aK d.Words k
    ·rw [t2 k hm ar.1 ar.2] at a;exact absurd rfl a
    ·rw [t3 k hm ar] at a;exact .inl ⟨q k a,O k a⟩
  ·exact .inl ⟨a.1,a.2.1⟩
 refine ⟨χ',d,p',rfl,E,C,h.mono λk _ a=>?_,Z,Vs,Vr,t1,N,λx X=>?_⟩
 ·rcases a with a | a | a
  ·exact .inl (f k (.inl a))
  ·exact .inl (f k (.inr (.inr a)))
  ·exact .inr (by rw [a];exact T)
 ·obtain ⟨d1,d2,d3,d4,d5,d6,d7⟩:=u x X;refine ⟨d1,d2,d3,d4,?_,d5,d6⟩;by_cases K:x.words=[]
  ·exact .inl K
  ·refine .inr ?_;rcases d3 with c | ⟨di,Vt,G,_⟩
   ·exact absurd (by simpa [us] using c) K
   ·rw [G];have y:aK d.Words di:=⟨Vt,G⟩;obtain ⟨cs,H⟩:=P di y;have R:¬ p'.mut b di:=by
     rintro (a | a | ⟨o,W⟩)
     ·have:=av.iV H (a▸N.aj);revert this;decide
     ·obtain ⟨Y,I⟩:=fI N.own a;have:=av.iV H I;revert this;decide
     ·rw [d7] at W;cases W
    intro c;rcases c with c | ⟨g,_,M⟩
    ·exact c (t2 di R (by rw [X];rfl) y)
    ·exact F (by rw [<-J di y g];exact M)
theorem bZ.Tm (h:bZ A aw w aN X) {di:Nat} {c:cd} {x:aL} (r:X.aX[i]?=some c) (g:c.di=some di) (H:q<c.raw.length) (ar:k1 A w d x) :
  ∃ A',Next A A' aw aw w (ct w ⟨di,0+q * 2,none⟩ 0 d.cells)/\bZ A' aw (ct w ⟨di,0+q * 2,none⟩ 0 d.cells) aN { X with aX:=X.aX.set i { c with raw:=c.raw.set q d,batch:=c.batch.set q x } }:=by
 have a:=h.a3 i c r;obtain ⟨E,C⟩:=a.batch di g;rw [g3];have z:ao (λk=>aw k=.batch i) w (ct w ⟨di,q * 2,none⟩ 0 d.cells):=(hT w di (q * 2) 0 d.cells).mono λk _ e=>by rw [e];exact C
 have p:=E.ct (o:=q * 2) (i:=0) (vs:=d.cells);rw [lY,G9 (xz _) (by simpa [fM] using H) rfl,Je] at p;obtain ⟨m,aQ⟩:=h.move (χ':=aw) (T:=λt=>t=.batch i) z (by simp) (λ_ _ h=>h) (λ_ _ _ _=>rfl);have f1:=a2.cK m a.own a.tag (by simp) (by simp);have I:kq (gi A aw aw w) aw (ct w ⟨di,q * 2,none⟩ 0 d.cells) i { c with raw:=c.raw.set q d,batch:=c.batch.set q x }:=by
  refine ⟨f1.1,f1.2,λj l F=>(a.lane j l F).cK m (by simp) (by simp),λG=>?_,λb u=>?_,?_,λk v y an n=>?_⟩
  ·have s:c.di=none:=G;rw [g] at s;cases s
  ·have f:c.di=some b:=u;rw [g] at f;simp only [e8] at f;subst f;exact ⟨p,C⟩
  ·simp [a.ds.1]
  ·rw [ik] at an n;by_cases he:q=k
   ·subst he;rw [if_pos rfl,if_pos (by omega)] at an;rw [if_pos rfl,if_pos (by rw [<-a.ds.1];omega)] at n;simp only [e8] at an n;subst an;subst n;exact ar.az m.r4 m.old
   ·rw [if_neg he] at an n;exact (a.ds.2 k v y an n).az m.r4 m.old
 obtain ⟨B,D⟩:=h.qY (χ':=aw) r (z.mono λk _ e=>.inr (by rw [e];rfl)) (λ_ _ h=>h) (λ_ _ _ _=>rfl) (λk r=>fX (h.jB r) z.size) (by have e:(fv X.aX).set i (cd.cells { c with raw:=c.raw.set q d,batch:=c.batch.set q x })=fv X.aX:=mm (by rw [uB r];simp [cd.cells]);rw [e];exact (av.cK m h.cls h.fb (by simp) (by simp)).1) h.fb I
 exact ⟨_,B,D⟩
theorem bZ.Tp (h:bZ A aw w aN X) {c:cd} (b:X.aX[i]?=some c) (n:Nat) :
  ∃ A',Next A A' aw aw w (w.setCell ⟨X.aY,0+i * 7+4,none⟩ (.int .i64 n))/\bZ A' aw (w.setCell ⟨X.aY,0+i * 7+4,none⟩ (.int .i64 n)) aN { X with aX:=X.aX.set i { c with waiting:=n } }:=by
 have d:ao (λk=>aw k=.aX) w (w.setCell ⟨X.aY,0+i * 7+4,none⟩ (.int .i64 n)):=(eV w X.aY _ _).mono λk _ e=>by rw [e];exact h.fb
 obtain ⟨m,aQ⟩:=h.move (χ':=aw) (T:=λt=>t=.aX) d (by simp) (λ_ _ h=>h) (λ_ _ _ _=>rfl);have a:=(h.a3 i c b).cK m (λt g e=>by rw [e] at g;exact g);obtain ⟨l,_⟩:=kX (k:=4) (c':={ c with waiting:=n }) h.cls b (by omega) (v:=.int .i64 n) (by simp [cd.cells]);obtain ⟨f,j⟩:=h.qY (χ':=aw) (c':={ c with waiting:=n }) b (d.mono λk _ e=>.inl e) (λ_ _ h=>h) (λ_ _ _ _=>rfl) (λk b=>fX (h.jB b) d.size) (by rw [r_];exact l) h.fb
  ⟨a.own,a.tag,a.lane,a.none,a.batch,a.ds⟩
 exact ⟨_,f,j⟩
def bP.tY (C:bP) (q:Nat) (p:c4) (b_:cQ):Option aL->bP
 |none=>C
 |some x=>{ C with aD:=C.aD.set q ⟨p,b_.tail⟩,batch:=C.batch.map λds=>ds.set (b_.headD 0) x,waiting:=C.waiting - 1 }
theorem Bl {R:cA} {V8:a5} {VP:Nat->Tag} {D:ak} {H:bQ} {aA:Nat} {b:cd} {dd:dk} (h:bZ V8 VP D aN H) (VN:H.aX[i]?=some b) (VB:b.aD[q]?=some dd) (V9:b.la=some ⟨g,0,none⟩)
  (VU:av D aA d.cells iM) (V7:Option aL) (ar:∀ x,V7=some x->k1 V8 D d x) (Wf:V7.isSome=true->∃ di L b_,dd.bT=L::b_/\L<b.raw.length/\b.di=some di/\0<b.waiting) (hlen:dd.bT.length<=1024) (WD:b.waiting<=1024)
  (Wp:∀ w' A' χ' Wk,Next V8 A' VP χ' D w'->bZ A' χ' w' aN Wk->Wk.pure=H.pure.fp i (b.pure.tY q dd.p.pure dd.bT V7)->R (.bool true) w') :
  (bif V7.isSome then (∀ E,E=D.drew->∃ O:aE,O E/\ff (some ⟨H.aY,0+i * 7,none⟩) λt=>∃ (batch:al) (qM:Nat) (I:Nat),(∀ u,O u->u.cell? ⟨t.block,t.off+3,none⟩=some (.slice batch qM I))/\∃ (bT:al) (n:Nat) (C:Nat),(∀ u,O u->u.cell? ⟨g,(0+q * 2)+1,none⟩=some (.slice bT n C))/\bk bT n 0 1 λVQ=>∃ (Wt:Int),(∀ u,O u->u.cell? VQ=some (.int .i64 Wt))/\∃ (Code:Int) (Words:al) (l:Nat) (j:Nat),(∀ u,O u->b6 u ⟨aA,0,none⟩ 0 [(.int .i64 Code),(.slice Words l j)])/\bk batch qM Wt 2 λVR=>eh E VR 0 [(.int .i64 Code),(.slice Words l j)]/\∀ F,F=ct E VR 0 [(.int .i64 Code),(.slice Words l j)]->∃ (B:al) (f:Nat) (c:Nat),F.cell? ⟨g,(0+q * 2)+1,none⟩=some (.slice B f c)/\hM B f c 1 (f:Nat) (c:Nat) 1 λWj WF WE=>Calls prog 71 #[(.slice Wj WF WE)] F λe G=>∃ (N:al) (s:Nat) (o:Nat),e=.returned (.slice N s o)/\(∃ u,G.cell? ⟨g,(0+q * 2)+1,none⟩=some u)/\G.frozen? ⟨g,(0+q * 2)+1,none⟩=false/\∀ y,y=G.setCell ⟨g,(0+q * 2)+1,none⟩ (.slice N s o)->ff (some ⟨H.aY,0+i * 7,none⟩) λw=>∃ (waiting:Int),y.cell? ⟨w.block,w.off+4,none⟩=some (.int .i64 waiting)/\ff (some ⟨H.aY,0+i * 7,none⟩) λa=>(∃ u,y.cell? ⟨a.block,a.off+4,none⟩=some u)/\y.frozen? ⟨a.block,a.off+4,none⟩=false/\∀ Vy,Vy=y.setCell ⟨a.block,a.off+4,none⟩ (.int .i64 (IntKind.i64.wrap (waiting - 1)))->R (.bool true) Vy) else (R (.bool true) D)):=by
 cases Vv:V7 with
 |none=>refine Wp D V8 VP H (h.refl (ao.refl _ _)) h ?_;rw [Vv];show H.pure=H.pure.fp i b.pure;have:H.pure.aX.set i b.pure=H.pure.aX:=mm (by simp [bQ.pure,VN]);simp only [aM.fp,fY,this]
 |some x=>
  obtain ⟨di,L,b_,A,We,Vr,WC⟩:=Wf (by rw [Vv];rfl);have Wa:=ar x Vv;intro E VE;have M:Go.br.ai D E:=by rw [VE];exact cD _
  clear VE;have VG:=h.new M;have Vs:=ai.aj M VU;have VI:=VG.a3 i b VN;have Wd:=VI.lane q dd VB;obtain ⟨bU,VJ,Wx,⟨Wu,Ww⟩,_,Wb⟩:=a2.row VI.own (nh b.aD) (by omega) (mi VB);have U:bU=g:=by rw [V9] at VJ;simp at VJ;exact VJ.symm
  subst U;have VL:(is (dd.bT.map Int.ofNat))[0]?=some (.int .i64 L):=by rw [A];rfl
  refine ⟨λz=>Go.br.ai E z,ao.refl _ _,some ⟨di,0,none⟩,b.raw.length,b.raw.length,λz au=>(VG.new au).h' (k:=3) VN (by simp [cd.cells,Vr]),dd.ky,dd.bT.length,dd.k4,λz au=>jy au (Wb 1 _ rfl) id,?_⟩;refine sH (i:=0) Wd.bT VL rfl λVQ VH Wv=>⟨L,λz au=>jy au VH id,d.Code,d.Words,d.cI,d.cC,λz au=>sB (ai.aj au Vs),ed (by omega) (by omega) ?_⟩
  rw [fY];obtain ⟨WG,V6,Z⟩:=VG.Tm (q:=L) VN Vr We (Wa.az (ao.b3 M) λ_ _ h=>h);refine ⟨f7 (vs:=d.cells) (VI.batch di Vr).1 ?_ (bR.single d),?_⟩
  ·rw [mf (xz _)];simp [fM,bR.cells];omega
  intro F VF;have X:F=ct E ⟨di,0+L * 2,none⟩ 0 d.cells:=VF;rw [<-X] at V6 Z;clear X;clear VF;have Q:(H.aX.set i { b with raw:=b.raw.set L d,batch:=b.batch.set L x })[i]?=some { b with raw:=b.raw.set L d,batch:=b.batch.set L x }:=by simp [ch VN]
  have T:=Z.a3 i _ Q;have VK:=T.lane q dd VB;obtain ⟨V_,VV,_,⟨Wm,VW⟩,_,VY⟩:=a2.row T.own (nh b.aD) (by omega) (mi VB);have U:V_=bU:=by have:b.la=some ⟨V_,0,none⟩:=VV;rw [V9] at this;simp at this;exact this.symm
  subst U;refine ⟨dd.ky,dd.bT.length,dd.k4,VY 1 _ rfl,?_⟩;have W:=VK.bT;rcases W.2 with ⟨_,Wo,_⟩ | ⟨bS,Ws,V1,Wy,V2,WA,Wz,WB⟩
  ·rw [A] at Wo;cases Wo
  rw [V1];have Wq:0<dd.bT.length:=by rw [A];simp
  refine kt (by omega) (by omega) (by omega) (by omega) V2 ?_;intro Wj V5;have Wg:bh F Wj (is (b_.map Int.ofNat)):=by
   by_cases VD:b_=[]
   ·rw [VD];exact .inl rfl
   ·rcases V5 with e | ⟨e,_⟩
    ·rw [e];have:=W.rd;rw [V1] at this;have:=this.drop 1;rw [A] at this;simpa [is] using this
    ·exfalso;rw [A] at e;simp at e;exact VD (fB (by omega))
  have V3:(Int.toNat (dd.bT.length:Int)) - Int.toNat 1=b_.length:=by rw [A];simp
  rw [V3];refine aC (Ij (by simp [is]) Wg (Jy _) (by rw [A] at hlen;simp at hlen <;> omega) (λe=>by rcases V5 with Wl | ⟨_,Wl⟩<;>rw [Wl] at e<;>cases e)) ?_;rintro r G ⟨VO,rc,rfl,VC,Vw,K,_⟩;have V':=Z.new VC;have J:=V'.a3 i _ Q;obtain ⟨VS,Vz,_,⟨Wn,VX⟩,_,VZ⟩:=a2.row J.own (nh b.aD) (by omega) (mi VB);have U:VS=V_:=by have:b.la=some ⟨VS,0,none⟩:=Vz;rw [V9] at this;simp at this;exact this.symm
  subst U;refine ⟨_,_,_,rfl,⟨_,VZ 1 _ rfl⟩,VX.frozen,?_⟩;intro y Y;have Wc:VP VS=.aD i:=J.tag VS ⟨0,Vz⟩;have VA:ao (λz=>z=VS) G y:=by rw [Y];exact eV _ _ _ _
  have Wr:∀ z,aK VO z->VP z=.bT i q\/G.heap.size<=z\/(F.heap.size<=z/\z<G.heap.size):=λz au=>.inr (by have:=K z au;omega)
  have Vu:a2 y lz 2 b.la b.aD.length b.lc ((gY b.aD).set q (dk.cells { dd with bT:=b_,ky:=VO,k4:=rc })).flatten:=by have V0:=J.own;have V:a2 G lz 2 b.la b.aD.length b.lc (gY b.aD).flatten:=V0;rw [V9] at V ⊢;rw [Y];have:=a2.setCell V (i:=q * 2+1) (by have:=ch VB;omega) (.slice VO b_.length rc);rw [yg (nh _) _ (mi VB) (by omega)] at this;simpa [dk.cells] using this
  have Vx:a2 y l6 1 VO b_.length rc (is (b_.map Int.ofNat)):=Vw.az VA λz au e=>by have WJ:=K z au;have WK:=VW.lt;omega
  clear Y;have Vt:ao (λz=>q0 i q (VP z)) F y:=(ao.b3 VC).trans VA λz _ e=>.inr (by rw [e];exact Wc)
  obtain ⟨WH,WL,Wh,P⟩:=Z.Gq Q VB Vt (λz au=>.inr (K z au)) Vx Vu;rw [jf] at P;have S:(H.aX.set i { b with raw:=b.raw.set L d,batch:=b.batch.set L x,aD:=b.aD.set q { dd with bT:=b_,ky:=VO,k4:=rc } })[i]?=some { b with raw:=b.raw.set L d,batch:=b.batch.set L x,aD:=b.aD.set q { dd with bT:=b_,ky:=VO,k4:=rc } }:=by simp [ch VN]
  refine ⟨b.waiting,P.h' (k:=4) S rfl,⟨_,P.h' (k:=4) S rfl⟩,P.cls.frozen,?_⟩;rw [show IntKind.i64.wrap ((b.waiting:Int) - 1)=((b.waiting - 1:Nat):Int) by rw [bC (by omega) (by omega)];omega];obtain ⟨WI,Wi,VT⟩:=P.Tp S (b.waiting - 1);intro Vy V4;rw [jf] at VT;have VM:Vy=y.setCell ⟨H.aY,0+i * 7+4,none⟩ (.int .i64 (b.waiting - 1:Nat)):=V4;rw [VM];refine Wp _ _ _ _ ((((h.refl M).trans V6).trans Wh).trans Wi) VT ?_;refine (bQ.xt H i _).trans ?_;congr 1;rw [Vv];simp [cd.pure,bP.tY,Vr,A,il,dk.pure]
end
section
theorem a2.Pm {i:TypeInfo} (D:P.underlying t=some (.slice e)) (C:P.info? e=some i) (K:0<i.size)
  (p:a2 w e i.size (some ⟨g,0,none⟩) n cap xs) {s:aU} {news:ax} (o:news.length=m * i.size) (J:bh w (some s) news) (E:∀ u ∈ news,single u=true) (a:n+m<=cap) :
  ∃ w',(Builtin.append_ #[t,t] ty #[.slice (some ⟨g,0,none⟩) n cap,.slice (some s) m c]).run P w=.ok (.slice (some ⟨g,0,none⟩) (n+m) cap) w'/\a2 w' e i.size (some ⟨g,0,none⟩) (n+m) cap (xs++news)/\ao (λk=>k=g) w w':=by
 have hlen:(xs++news).length=(n+m) * i.size:=by rw [dH,p.1,o,ra]
 by_cases hm:m=0
 ·subst hm;have G:news=[]:=fB (by simpa using o);subst G;refine ⟨w,?_,by simpa using p,ao.refl _ _⟩;have hle:=p.le;simp [Builtin.append_,run_underlying D,sizeOf,typeInfo,C,Builtin.lenOf,hle,Builtin.firstCells,loadCells,loadCellsFrom,storeCells]
 ·have A:news≠[]:=by
   intro x;have q:m * i.size=0:=by rw [<-o,x];rfl
   rcases Nat.mul_eq_zero.1 q with h | h<;>omega
  rcases J with x | ⟨sb,so,he,d⟩
  ·exact absurd x A
  simp at he;subst he;have f:∀ j u,news[j]?=some u->w.cell? ((⟨sb,so,none⟩:aU).add j)=some u:=λj u hu=>by rw [k3];exact d j u hu
  have r:∀ u ∈ news,u.oneCell'=true:=λu hu=>GM (E u hu)
  rcases p.2 with ⟨q,_⟩ | ⟨bU,cur,he,B,H,y,z,l⟩
  ·cases q
  simp at he;subst he;have b:n * i.size+news.length<=cur.toArray.size:=by rw [o,List.size_toArray,z,<-ra];exact sV _ a
  have I:=run_append_room (P:=P) w t ty e i D C g n cap cur.toArray B ⟨sb,so,none⟩ m c news o f r a b;refine ⟨_,I,⟨hlen,.inr ⟨g,_,rfl,setRow_heap w g cur.toArray _ e _ B,a,y,?_,?_⟩⟩,⟨rfl,rfl,rfl,by simp,λk _ F=>setRow_other w g k _ (λe=>F e)⟩⟩
  ·simp only [dH,iG,lZ] at *;simp at b <;> omega
  ·rw [l,<-hlen];exact List.take_left
theorem IX {i:TypeInfo} {z:a4} (h:P.underlying t=some (.slice e)) (g:P.info? e=some i) (au:i.zero=some z) (d:z.cells=#[z]) {o:Nat} (hw:eh w ⟨b,o,none⟩ 0 [z]) :
  (Builtin.clear_ #[t] ty #[.slice (some ⟨b,o,none⟩) 1 c]).run P w=.ok (.tuple #[]) (ct w ⟨b,o,none⟩ 0 [z]):=by
 have a:=su (P:=P) hw;have f:(Builtin.zeroCells z.cells 1).toList=[z]:=by rw [d];simp [Builtin.zeroCells]
 simp [Builtin.clear_,run_underlying h,zeroValue,typeInfo,g,au,f,a]
theorem a2.TT {e:Nat} (h:a2 w e 1 a n cap xs) (i:a≠none) (hm:m<=n):a2 w e 1 a m cap (xs.take m):=by
 rcases h.2 with ⟨f,_⟩ | ⟨g,cur,he,j,k,c,d,b⟩
 ·exact absurd f i
 ·refine ⟨by have:=h.1;simp;omega,.inr ⟨g,cur,he,j,by omega,c,d,?_⟩⟩;rw [<-b,List.take_take,Nat.min_eq_left (by omega),Nat.mul_one]
theorem J2 (h:a2 w n7 1 a n cap xs) (Vz:i<n) (Z:∀ u ∈ xs,single u=true) :
  a_ 89 [.slice a n cap,.int .i64 i,.int .i64 (i+1:Nat)] w λv w'=>v=.slice a (n - 1) cap/\a2 w' n7 1 a (n - 1) cap (xs.eraseIdx i)/\ao (aK a) w w':=by
 refine bc Tryz.func89 ?_;rw [Pw];have Vv:=h.1;rcases h.2 with ⟨_,U,_⟩ | ⟨g,cur,rfl,Vy,p,G,Vt,M⟩
 ·omega
 have V:cap<=9223372036854775807:=G;refine kt (by omega) (by omega) (by omega) (by omega) p ?_;intro VA _;refine dJ (λhe=>by omega) (λ_=>?_)
 intro w1 D;have l:ai w w1:=by rw [D];exact cD _
 clear D;refine kt (by omega) (by omega) (by omega) (by omega) p ?_;intro O E;refine kt (by omega) (by omega) (by omega) (by omega) p ?_;intro Q j;have X:O=some ⟨g,0,none⟩:=by rcases E with e | ⟨_,e⟩<;>simpa using e
 subst X;simp only [fY,Int.toNat_zero,Nat.sub_zero];obtain ⟨s2,rfl⟩:∃ s,Q=some s:=by rcases j with e | ⟨_,e⟩<;>exact ⟨_,e⟩
 obtain ⟨Vw,C,au,q,Vs⟩:=fL (T:=103) (z:=.pointer none) (n:=1) (m:=8) (by kernel_rfl);have K:a2 w1 n7 Vw.size (some ⟨g,0,none⟩) i cap (xs.take i):=by rw [q];exact a2.TT (h.new l) (by simp) (by omega)
 have L:bh w1 (some s2) (xs.drop (i+1)):=by
  by_cases ar:xs.drop (i+1)=[]
  ·rw [ar];exact .inl rfl
  ·rcases j with e | ⟨e,_⟩
   ·rw [e];have:=(h.new l).rd.drop (i+1);simpa using this
   ·exfalso;apply ar;apply AS;omega
 obtain ⟨W,f,b,I⟩:=a2.Pm (P:=prog) (t:=106) (ty:=106) Tryz.underlying106 C (by omega) K (s:=s2) (m:=n - (i+1)) (c:=cap - (i+1)) (news:=xs.drop (i+1)) (by rw [q];simp;omega) L
  (λu hu=>Z u (oP hu)) (by omega)
 rw [q] at b;have H:i+(n - (i+1))=n - 1:=by omega
 rw [H] at f b;refine ⟨_,_,_,W,f,?_⟩;refine kt (by omega) (by omega) (by omega) (by omega) (by omega) ?_;intro R F;have Y:R=some ⟨g,0+(n - 1) * 1,none⟩:=by
  rcases F with e | ⟨e,_⟩
  ·simpa using e
  ·omega
 subst Y;have J:(Int.toNat (n:Int)) - Int.toNat ((n - 1:Nat):Int)=1:=by omega
 rw [J];rcases b.2 with ⟨U,_⟩ | ⟨Vx,S,y,A,B,r,x,d⟩
 ·cases U
 simp at y;subst y;have N:eh W ⟨g,0+(n - 1) * 1,none⟩ 0 [.pointer none]:=f7 A (by simp;omega) (by simp [single]);refine ⟨_,_,IX (P:=prog) Tryz.underlying106 C au rfl N,rfl,?_,?_⟩
 ·have Vr:=A.ct (o:=0+(n - 1) * 1) (i:=0) (vs:=[.pointer none]);have Vu:xs.take i++xs.drop (i+1)=xs.eraseIdx i:=(List.eraseIdx_eq_take_drop_succ ..).symm;rw [Vu] at b d;refine ⟨b.1,.inr ⟨g,_,rfl,Vr,B,r,by rw [GL];exact x,?_⟩⟩;rw [pq (by simp;omega)];rw [<-d];rw [ln,List.take_append_of_le_length (by simp;omega),List.take_take,Nat.min_eq_left (by omega)]
 ·exact ((ao.b3 l).trans I λk _ e=>⟨0,by rw [e]⟩).trans (hT _ _ _ _ _) λk _ e=>⟨0,by rw [e]⟩
def lT (b n:Nat) (t:Tag):Prop:=t=.ib b\/t=.word n
theorem Jh {α:Type} {l:List α} (h:l.Nodup) {x:α} (g:l[i]?=some x) (k:l[j]?=some x):i=j:=by
 obtain ⟨b,c⟩:=lq.1 g;obtain ⟨d,e⟩:=lq.1 k;have f:=AN.1 h;rcases Nat.lt_trichotomy i j with a | a | a
 ·exact absurd (c.trans e.symm) (f i j b d a)
 ·exact a
 ·exact absurd (e.trans c.symm) (f j i d b a)
theorem xC {α β:Type} (f:α->β):∀ (l:List α) (i:Nat),(l.map f).eraseIdx i=(l.eraseIdx i).map f
 | [],_=>rfl
 | _::_,0=>rfl
 |x::l,i+1=>by simp [xC f l i]
theorem bZ.Tn {χ':Nat->Tag} (h:bZ A aw w aN X) (o:X.bV[i]?=some (b,p)) (u:X.nodes[n]?=some y)
  (c:ao (λk=>lT b n (aw k)) w w') (D:∀ k,k<w.heap.size->χ' k≠.cr->aw k≠.cr) (r:∀ k,k<w.heap.size->aw k≠.ib b->χ' k=aw k) (f:∀ k,χ' k≠.cr->k<w'.heap.size)
  (l:dY w' y.b y.aI n') (E:dM (gi A aw χ' w) w' b p') (F:∀ k,p'.mut b k->χ' k=.ib b) :
  Next A (gi A aw χ' w) aw χ' w w'/\bZ (gi A aw χ' w) χ' w' aN { X with nodes:=X.nodes.set n { y with n:=n' },bV:=X.bV.set i (b,p') }:=by
 obtain ⟨m,aQ⟩:=h.move (T:=lT b n) c (by simp [lT]) D (λk j l _=>r k j λe=>l (.inl e));have f1:=av.cK m h.cl h.gG (by simp [lT]) (by simp);have f2:=a2.cK m h.nodes h.jD (by simp [lT]) (by simp);have f3:=a2.cK m h.fU h.jZ (by simp [lT]) (by simp);have f4:=av.cK m h.cls h.fb (by simp [lT]) (by simp);have a:=h.node n y u;have B:(X.bV.set i (b,p')).map Prod.fst=X.bV.map Prod.fst:=by rw [il];exact mm (by simp [o])
 refine ⟨aQ,m.l9,λk d=>?_,?_,f1.2,?_,f2.2,?_,f4.1,f4.2,λq z au=>(h.a3 q z au).cK m (λt s C=>?_),?_,f3.2,λx G=>?_,?_⟩
 ·rcases d with d | d
  ·exact f k d
  ·exact fX d.1 c.size
 ·simpa [bQ.cells] using f1.1
 ·have e:((X.nodes.set n { y with n:=n' }).map λx=>ptr x.b)=X.nodes.map λx=>ptr x.b:=by rw [il];exact mm (by simp [u])
  rw [e];simpa using f2.1
 ·intro q z au;simp only [ik] at au;split at au
  ·rename_i he;subst he;split at au
   ·simp only [e8] at au;subst au;exact ⟨l,by rw [r _ a.node.node.lt (by rw [a.tag];simp)];exact a.tag,by rw [r _ a.node.words.lt (by rw [a.jJ];simp)];exact a.jJ⟩
   ·cases au
  ·rename_i he;exact (h.node q z au).cK m (by simp [lT]) (by simp [lT];exact λe=>he e.symm)
 ·rcases C with e | e<;>(rw [e] at s;cases s)
 ·have e:((X.bV.set i (b,p')).map λp=>ptr p.1)=X.bV.map λp=>ptr p.1:=by rw [il];exact mm (by simp [o])
  rw [e];simpa using f3.1
 ·obtain ⟨k,c⟩:=eF.1 G;simp only [ik] at c;split at c
  ·rename_i he;subst he;split at c
   ·simp only [e8] at c;subst c;exact ⟨E,F⟩
   ·cases c
  ·rename_i he;have g:=h.eC x (cg c);refine dM.cK m g.1 g.2 ?_ (by simp);rintro (e | e)
   ·simp at e;exact he (Jh (x:=b) h.nodup (by simp [o]) (by simp [c,e]))
   ·cases e
 ·show ((X.bV.set i (b,p')).map Prod.fst).Nodup;rw [B];exact h.nodup
theorem bZ.Pq (h:bZ A aw w aN X) (l:i<X.bV.length) (c:ao (λk=>aw k=.fU\/aw k=.cl) w w')
  (n:a2 w' n7 1 X.dy (X.bV.length - 1) X.gK ((X.bV.map λp=>ptr p.1).eraseIdx i)) (j:av w' aN (X.cells.set 3 (.slice X.dy (X.bV.length - 1) X.gK)) ly) :
  ∃ A',Next A A' aw aw w w'/\bZ A' aw w' aN { X with bV:=X.bV.eraseIdx i }:=by
 obtain ⟨m,aQ⟩:=h.move (T:=λt=>t=.fU\/t=.cl) (χ':=aw) c (by simp) (λ_ _ h=>h) (λ_ _ _ _=>rfl);have f:(X.bV.eraseIdx i).length=X.bV.length - 1:=List.length_eraseIdx_of_lt l;refine ⟨_,aQ,m.l9,λk a=>?_,?_,h.gG,(a2.cK m h.nodes h.jD (by simp) (by simp)).1,h.jD,λq z au=>(h.node q z au).cK m (by simp) (by simp),(av.cK m h.cls h.fb (by simp) (by simp)).1,h.fb,λq z au=>(h.a3 q z au).cK m (λt d g=>?_),?_,h.jZ,λx o=>?_,?_⟩
 ·rcases a with a | a
  ·exact fX (h.jB a) c.size
  ·exact fX a.1 c.size
 ·simpa [bQ.cells,f] using j
 ·rcases g with e | e<;>(rw [e] at d;cases d)
 ·show a2 w' n7 1 X.dy (X.bV.eraseIdx i).length X.gK ((X.bV.eraseIdx i).map λp=>ptr p.1);rw [f,<-xC];exact n
 ·have b:=h.eC x (ye o);exact dM.cK m b.1 b.2 (by simp) (by simp)
 ·show ((X.bV.eraseIdx i).map Prod.fst).Nodup;rw [<-xC];exact (List.eraseIdx_sublist ..).nodup h.nodup
theorem IY (l:List (Nat×dE)):∀ u ∈ l.map (λp=>ptr p.1),single u=true:=by intro u hu;simp only [cW] at hu;obtain ⟨p,_,rfl⟩:=hu;rfl
theorem NW (h:bZ A aw w aN X) (c:Int) (t:c<9223372036854775807):a_ 62 [ptr aN,.int .i64 c] w λv w'=>
  v=.bool (X.pure.drop c).1/\d8 A aw w aN (X.pure.drop c).2 w' λ_=>True:=by
 refine bc Tryz.func62 ?_;rw [ptr,Rh];have s:X.pure.bV.length=X.bV.length:=by simp [bQ.pure]
 refine a' (λo=>?_) (λo=>⟨_,_,_,h.cl.cell rfl,a' (λq=>?_) (λq=>?_)⟩)
 ·have ar:X.pure.drop c=(false,X.pure):=by unfold aM.drop;rw [if_pos (.inl o)]
  rw [ar];exact ⟨rfl,d8.same h (ao.refl _ _) trivial⟩
 ·have ar:X.pure.drop c=(false,X.pure):=by unfold aM.drop;rw [if_pos (.inr (by omega))]
  rw [ar];exact ⟨rfl,d8.same h (ao.refl _ _) trivial⟩
 ·have ar:X.pure.drop c=(true,{ X.pure with bV:=X.pure.bV.eraseIdx c.toNat }):=by unfold aM.drop;rw [if_neg (by omega)]
  rw [ar];obtain ⟨i,rfl⟩:∃ i:Nat,c=i:=⟨c.toNat,by omega⟩;refine ⟨_,_,_,h.cl.cell rfl,?_⟩;rw [show IntKind.i64.wrap ((i:Int)+1)=((i+1:Nat):Int) by rw [bC (by omega) (by omega)];rfl];refine aC (J2 h.fU (by omega) (IY _)) ?_;rintro v w1 ⟨rfl,n,l⟩;have a:ao (λk=>aw k=.fU) w w1:=l.mono λk _ g=>h.jZ k g
  have b:=a.aj h.cl (by rw [h.gG];simp);refine ⟨_,_,_,rfl,⟨_,b.cell (i:=3) rfl⟩,b.frozen,?_⟩;intro p d;have f:ao (λk=>k=aN) w1 p:=by rw [d];exact eV _ _ _ _
  have j:av p aN (X.cells.set 3 (.slice X.dy (X.bV.length - 1) X.gK)) ly:=by rw [d];exact b.setCell _
  clear d;obtain ⟨A',aQ,r⟩:=h.Pq (i:=i) (by omega) ((a.mono λk _ e=>.inl e).trans f λk _ e=>.inr (by rw [e];exact h.gG)) (n.az f λk g e=>by have:=h.jZ k g;rw [e,h.gG] at this;cases this) j;refine ⟨rfl,_,_,_,aQ,r,?_,trivial⟩;simp [bQ.pure,xC]
theorem d8.trans {A a:a5} {aw c:Nat->Tag} {w w1 b:ak} {aN:Nat} {F:aM} {K:(a5)->Prop} (n:Next A a aw c w w1) (h:d8 a c w1 aN F b K):d8 A aw w aN F b K:=by obtain ⟨d,k,e,j,f,i,g⟩:=h;exact ⟨d,k,e,n.trans j,f,i,g⟩
theorem Mp {e sz:Nat} (h:a2 w e sz a n cap xs):n<=9223372036854775807:=by
 rcases h.2 with ⟨_,c,_⟩ | ⟨g,cur,_,_,d,b,_⟩
 ·omega
 ·have:cap<=9223372036854775807:=b;omega
theorem HK {α:Type} {l:List α} {x y:α} (h:l[i]?=some x):(l.set i y)[i]?=some y:=by simp [ch h]
theorem Bm {α:Type}:∀ (l:List α) (i:Nat) (x:α),(l.set i x).eraseIdx i=l.eraseIdx i
 | [],_,_=>rfl
 | _::_,0,_=>rfl
 |y::l,i+1,x=>by simp [Bm l i x]
theorem Hu (h:bZ A aw w aN X) (O:nU X.pure) (i:Nat):a_ 69 [ptr aN,.int .i64 i] w λv w'=>
  v=.bool (X.pure.iU i).1/\d8 A aw w aN (X.pure.iU i).2 w' λ_=>True:=by
 refine bc Tryz.func69 ?_;rw [ptr,Ri];have Vy:X.pure.bV.length=X.bV.length:=by simp [bQ.pure]
 refine ⟨_,_,_,h.cl.cell rfl,a' (λY=>?_) (λY=>?_)⟩
 ·have ar:X.pure.iU i=(false,X.pure):=by unfold aM.iU;rw [lp (by omega)]
  rw [ar];exact ⟨rfl,d8.same h (ao.refl _ _) trivial⟩
 have J:i<X.bV.length:=by omega
 obtain ⟨b,p,x⟩:∃ b p,X.bV[i]?=some (b,p):=⟨X.bV[i].1,X.bV[i].2,by simp [J]⟩;have Vz:=h.eC _ (cg x);obtain ⟨Vw,Vx,E⟩:=O.eC p.pure (cg (i:=i) (by simp [bQ.pure,x]));obtain ⟨n,Vv⟩:∃ n:Nat,p.node=n:=⟨p.node.toNat,by have:p.pure.node=p.node:=rfl;omega⟩;have M:n<X.nodes.length:=by
  have e:p.pure.node=p.node:=rfl;have T:X.pure.nodes.length=X.nodes.length:=by simp [bQ.pure]
  omega
 obtain ⟨y,G⟩:∃ y,X.nodes[n]?=some y:=⟨X.nodes[n],by simp [M]⟩;have VA:=h.node n y G;refine ⟨_,_,_,h.cl.cell rfl,?_⟩;refine sH (v:=ptr b) (i:=i) h.fU (by simp [x]) rfl λbw t _=>⟨some ⟨b,0,none⟩,t,?_⟩
 intro w1 F;have l:ai w w1:=by rw [F];exact cD _
 clear F;have a:=h.new l;have c:=a.eC _ (cg x);have f:=a.node n y G;refine ⟨λu=>ao (λk=>lT b n (aw k)) w1 u,ao.refl _ _,_,_,_,λu hu=>(hu.aj a.cl (by rw [a.gG];simp [lT])).cell (i:=1) rfl,?_⟩;refine aC (C4 c.1) ?_;rintro r VB ⟨rfl,rfl⟩;refine ⟨_,rfl,ao.refl _ _,?_⟩;refine sH (v:=ptr y.b) (i:=n) a.nodes (by simp [G]) Vv λU o C=>⟨some ⟨y.b,0,none⟩,λu hu=>jy hu o ?_,?_⟩
 ·obtain ⟨g,Vu,rfl⟩:=C;rw [show aw _=_ from a.jD g ⟨0,Vu⟩];simp [lT]
 refine aC (C5 c.1 f.node (a.fj _ (by rw [f.jJ];simp)) (a.fj _ (by rw [f.tag];simp)) (λVr=>by have:=c.2 _ (.inr (.inr Vr));rw [f.jJ] at this;cases this) E) ?_;intro r VC Z;obtain ⟨χ',d,p',rfl,D,q,K,I,P,L,R,H,Vt⟩:=Bk c.1 c.2 (by simp) (λk Vs=>a.jB Vs) a.fj f.jJ Z;obtain ⟨aQ,s⟩:=a.Tn x G K I P L q H R;refine ⟨_,_,_,_,_,rfl,?_⟩;have N:(X.bV.set i (b,p'))[i]?=some (b,p'):=HK x;refine aC (xA (s.eC _ (cg N)).1) ?_;rintro r VD ⟨rfl,rfl⟩;have Q:X.pure.iU i=(true,{ X.pure with nodes:=X.pure.nodes.set n (p.pure.step y.n).2.1,bV:=if (p.pure.step y.n).1.ba.length=0 then X.pure.bV.eraseIdx i else X.pure.bV.set i (p.pure.step y.n).1 }):=by
  unfold aM.iU;have V:X.pure.bV[i]?=some p.pure:=by simp [bQ.pure,x]
  have T:p.pure.node.toNat=n:=by show p.node.toNat=n;omega
  have W:X.pure.nodes[n]?=some y.n:=by simp [bQ.pure,G]
  simp only [V,T,W]
 rw [Q];have an:p'.ba=(p.pure.step y.n).1.ba:=by rw [<-D];rfl
 refine ⟨_,rfl,dJ (λau=>?_) (λau=>?_)⟩
 ·have B:(p.pure.step y.n).1.ba.length=0:=by rw [<-an];have S:(p'.ba.length:Int)=0:=au;omega
  refine aC (NW s i (by have:=Mp h.fU;omega)) ?_;rintro v VE ⟨rfl,z⟩;refine ⟨_,rfl,rfl,?_⟩;have j:=d8.trans ((h.refl l).trans aQ) z;have e:(bQ.pure { X with nodes:=X.nodes.set n { y with n:=(p.pure.step y.n).2.1 },bV:=X.bV.set i (b,p') }).drop i=(true,{ X.pure with nodes:=X.pure.nodes.set n (p.pure.step y.n).2.1,bV:=X.pure.bV.eraseIdx i }):=by unfold aM.drop;rw [if_neg (by simp [bQ.pure];omega)];simp [bQ.pure,il,Bm]
  rw [e] at j;rw [if_pos B];exact j
 ·have B:¬ (p.pure.step y.n).1.ba.length=0:=by rw [<-an];have S:¬ (p'.ba.length:Int)=0:=au;omega
  rw [if_neg B];refine ⟨rfl,_,_,_,(h.refl l).trans aQ,s,?_,trivial⟩;simp [bQ.pure,il,D]
theorem bQ.To {c:cd} {l:dk} :
  (bQ.pure { X with nodes:=X.nodes.set n { y with n:=n' },aX:=X.aX.set i { c with aD:=c.aD.set j { l with p:=p' } } }) =
   {X.pure with nodes:=X.pure.nodes.set n n',aX:=X.pure.aX.set i { c.pure with aD:=c.pure.aD.set j ⟨p'.pure,l.bT⟩ } }:=by
 simp [bQ.pure,il,cd.pure,dk.pure]
end
end Go.Proofs.YtmkljjbioomepaaGreat
