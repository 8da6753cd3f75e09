import Derived.Test.YtmkljjbioomepaaGreatb11
set_option linter.all false
set_option maxHeartbeats 4000000
set_option maxRecDepth 100000
namespace Go.Proofs.YtmkljjbioomepaaGreat
open Go.Proofs.Tryz Go.bu
variable {A:a3} {P:Program} {X:bL} {a:an} {b c cap aI g i j m n q:Nat} {d:bO} {e t ty:TypeId} {n':aZ} {p p':dG} {w w':ak} {xs:ax} {y:g'} {aw:Nat->Tag}
section
theorem Iu (h:xs.length=n) (s:bh w a xs) (p:∀ u ∈ xs,single u=true) (x:n<=1000000000) (l:a=none->n=0) :
  a9 71 [.slice a n c] w λv w'=>∃ e cap,v=.slice e n cap/\tp w w' 3 1 a e n cap xs:=by
 refine bc Tryz.func71 ?_;rw [SR];obtain ⟨i,q,au,d,g⟩:=fO (T:=3) (z:=.int .i64 0) (n:=1) (m:=8) (by kernel_rfl);cases a with
 |none=>
  refine ek rfl ⟨none,0,by rw [l rfl],ao.refl _ _,?_,?_,by simp⟩
  ·rw [l rfl] at h ⊢;rw [fI h];exact a0.nil _ _ _
  ·rintro k ⟨o,r⟩;cases r
 |some a=>refine cV rfl ?_;rintro b1 w1 rfl rfl;obtain ⟨e,b,w',f,j⟩:=xS (t:=22) (ty:=22) (z:=.int .i64 0) (n:=n) (c:=c) (w:=w) (a:=a) (xs:=xs) Tryz.underlying22 q au (by rw [d];rfl) (by omega) (by rw [h,d];omega) s p (by omega) (by rw [g];omega);exact ⟨e,n,b,w',f,e,b,rfl,by rw [d] at j;exact j⟩
theorem B8 {fF fr:Nat} {n:aZ} {r:a2} {t lk:Tag} (j:dK A w b p) (f:∀ k,p.mut b k->aw k=t) (F:t≠.cu) (q:∀ k,aw k≠.cu->k<w.heap.size) (O:∀ k,aw k≠.cu->A k) (T:aw fr=lk)
  (S:yc A b fF fr p n w r w') :
  ∃ (χ':Nat->Tag) (d:bO) (p':dG),r=.tuple #[d.val,.bool (p.pure.step n).2.2.isSome]/\p'.pure=(p.pure.step n).1/\dZ w' fF fr (p.pure.step n).2.1/\ao (λk=>aw k=t\/aw k=lk) w w'/\
   (∀ k,k<w.heap.size->χ' k≠.cu->aw k≠.cu)/\(∀ k,k<w.heap.size->aw k≠t->χ' k=aw k)/\(∀ k,χ' k≠.cu->k<w'.heap.size)/\(∀ k,p'.mut b k->χ' k=t)/\dK (gp A aw χ' w) w' b p'/\
   ∀ x,(p.pure.step n).2.2=some x->lf (gp A aw χ' w) w' d x:=by
 classical
 obtain ⟨d,p',rfl,E,C,u,Q,l,h,U,V,P⟩:=S;have s:∀ k,p.mut b k->k<w.heap.size:=by
  rintro k (rfl | a | a)
  ·exact j.aj.lt
  ·exact j.own.lt a
  ·exact j.kg.lt a
 have i:∀ k,p'.mut b k->p.mut b k\/w.heap.size<=k:=by
  rintro k (a | a | a)
  ·exact .inl (.inl a)
  ·rcases U with e | e
   ·exact .inl (.inr (.inl (e▸a)))
   ·exact .inr (e k a)
  ·rcases V with e | e
   ·exact .inl (.inr (.inr (e▸a)))
   ·exact .inr (e k a)
 have D:=l (λk=>(k<w.heap.size/\A k)\/aL p'.c4 k\/aL p'.df k) (λk a=>a) (λk a=>by
  rcases a with a | a | a
  ·exact .inl ⟨s k (.inl a),j.iD k (.inl a)⟩
  ·exact .inr (.inl a)
  ·exact .inr (.inr a))
 have B:∀ k,p'.mut b k->k<w'.heap.size:=by
  rintro k (rfl | a | a)
  ·exact D.aj.lt
  ·exact D.own.lt a
  ·exact D.kg.lt a
 let χ':Nat->Tag:=λk=>if p'.mut b k then t else if (p.pure.step n).2.2.isSome=true/\aL d.Words k then .cu else aw k
 have t1:∀ k,p'.mut b k->χ' k=t:=λk a=>if_pos a
 have t2:∀ k,¬ p'.mut b k->(p.pure.step n).2.2.isSome=true->aL d.Words k->χ' k=.cu:=λk g L M=>by show (if p'.mut b k then t else if (p.pure.step n).2.2.isSome=true/\aL d.Words k then Tag.cu else aw k)=_;rw [if_neg g,if_pos ⟨L,M⟩]
 have t3:∀ k,¬ p'.mut b k->¬ ((p.pure.step n).2.2.isSome=true/\aL d.Words k)->χ' k=aw k:=λk g L=>by show (if p'.mut b k then t else if (p.pure.step n).2.2.isSome=true/\aL d.Words k then Tag.cu else aw k)=_;rw [if_neg g,if_neg L]
 have J:∀ k,aL d.Words k->k<w.heap.size->aw k=t:=λk a z=>by
  rcases Q k a with g | g
  ·exact f k (.inr (.inr g))
  ·omega
 have Z:∀ k,k<w.heap.size->χ' k≠.cu->aw k≠.cu:=by
  intro k z c;by_cases hm:p'.mut b k
  ·rcases i k hm with g | g
   ·rw [f k g];exact F
   ·omega
  ·by_cases ar:(p.pure.step n).2.2.isSome=true/\aL d.Words k
   ·rw [t2 k hm ar.1 ar.2] at c;exact absurd rfl c
   ·rw [t3 k hm ar] at c;exact c
 have V3:∀ k,k<w.heap.size->aw k≠t->χ' k=aw k:=by
  intro k z c;by_cases hm:p'.mut b k
  ·rcases i k hm with g | g
   ·exact absurd (f k g) c
   ·omega
  ·by_cases ar:(p.pure.step n).2.2.isSome=true/\aL d.Words k
   ·exact absurd (J k ar.2 z) c
   ·exact t3 k hm ar
 have V2:∀ k,χ' k≠.cu->k<w'.heap.size:=by
  intro k c;by_cases hm:p'.mut b k
  ·exact B k hm
  ·by_cases ar:(p.pure.step n).2.2.isSome=true/\aL d.Words k
   ·rw [t2 k hm ar.1 ar.2] at c;exact absurd rfl c
   ·rw [t3 k hm ar] at c;exact f8 (q k c) h.size
 have N:dK (gp A aw χ' w) w' b p':=by
  refine l _ (λk a=>?_) (λk a=>.inl (by rw [t1 k a];exact F));rcases a with a | a
  ·by_cases hm:p'.mut b k
   ·rcases hm with hm | hm | hm
    ·exact .inl ⟨s k (.inl hm),j.iD k (.inl hm)⟩
    ·exact .inr (.inl hm)
    ·exact .inr (.inr hm)
   ·by_cases ar:(p.pure.step n).2.2.isSome=true/\aL d.Words k
    ·rw [t2 k hm ar.1 ar.2] at a;exact absurd rfl a
    ·rw [t3 k hm ar] at a;exact .inl ⟨q k a,O k a⟩
  ·exact .inl ⟨a.1,a.2.1⟩
 refine ⟨χ',d,p',rfl,E,C,h.mono λk _ a=>?_,Z,V3,V2,t1,N,λx X=>?_⟩
 ·rcases a with a | a | a
  ·exact .inl (f k (.inl a))
  ·exact .inl (f k (.inr (.inr a)))
  ·exact .inr (by rw [a];exact T)
 ·obtain ⟨d1,d2,d3,d4,d5,d6,d7⟩:=u x X;refine ⟨d1,d2,d3,d4,?_,d5,d6⟩;by_cases K:x.words=[]
  ·exact .inl K
  ·refine .inr ?_;rcases d3 with c | ⟨dk,V4,G,_⟩
   ·exact absurd (by simpa [us] using c) K
   ·rw [G];have y:aL d.Words dk:=⟨V4,G⟩;obtain ⟨cs,H⟩:=P dk y;have R:¬ p'.mut b dk:=by
     rintro (a | a | ⟨o,W⟩)
     ·have:=av.i_ H (a▸N.aj);revert this;decide
     ·obtain ⟨Y,I⟩:=fM N.own a;have:=av.i_ H I;revert this;decide
     ·rw [d7] at W;cases W
    intro c;rcases c with c | ⟨g,_,M⟩
    ·exact c (t2 dk R (by rw [X];rfl) y)
    ·exact F (by rw [<-J dk y g];exact M)
theorem b2.T3 (h:b2 A aw w aI X) {dk:Nat} {c:ck} {x:aO} (r:X.aV[i]?=some c) (g:c.dk=some dk) (H:q<c.raw.length) (ar:lf A w d x) :
  ∃ A',Next A A' aw aw w (cr w ⟨dk,0+q * 2,none⟩ 0 d.cells)/\b2 A' aw (cr w ⟨dk,0+q * 2,none⟩ 0 d.cells) aI { X with aV:=X.aV.set i { c with raw:=c.raw.set q d,batch:=c.batch.set q x } }:=by
 have a:=h.a1 i c r;obtain ⟨E,C⟩:=a.batch dk g;rw [g6];have z:ao (λk=>aw k=.batch i) w (cr w ⟨dk,q * 2,none⟩ 0 d.cells):=(h0 w dk (q * 2) 0 d.cells).mono λk _ e=>by rw [e];exact C
 have p:=E.cr (o:=q * 2) (i:=0) (vs:=d.cells);rw [l0,Hu (xW _) (by simpa [fP] using H) rfl,J_] at p;obtain ⟨m,aP⟩:=h.move (χ':=aw) (T:=λt=>t=.batch i) z (by simp) (λ_ _ h=>h) (λ_ _ _ _=>rfl);have f1:=a0.cM m a.own a.tag (by simp) (by simp);have I:kC (gp A aw aw w) aw (cr w ⟨dk,q * 2,none⟩ 0 d.cells) i { c with raw:=c.raw.set q d,batch:=c.batch.set q x }:=by
  refine ⟨f1.1,f1.2,λj l F=>(a.lane j l F).cM m (by simp) (by simp),λG=>?_,λb u=>?_,?_,λk v y al n=>?_⟩
  ·have s:c.dk=none:=G;rw [g] at s;cases s
  ·have f:c.dk=some b:=u;rw [g] at f;simp only [fe] at f;subst f;exact ⟨p,C⟩
  ·simp [a.ds.1]
  ·rw [iu] at al n;by_cases he:q=k
   ·subst he;rw [if_pos rfl,if_pos (by omega)] at al;rw [if_pos rfl,if_pos (by rw [<-a.ds.1];omega)] at n;simp only [fe] at al n;subst al;subst n;exact ar.az m.sm m.old
   ·rw [if_neg he] at al n;exact (a.ds.2 k v y al n).az m.sm m.old
 obtain ⟨B,D⟩:=h.q5 (χ':=aw) r (z.mono λk _ e=>.inr (by rw [e];rfl)) (λ_ _ h=>h) (λ_ _ _ _=>rfl) (λk r=>f8 (h.jH r) z.size) (by have e:(fC X.aV).set i (ck.cells { c with raw:=c.raw.set q d,batch:=c.batch.set q x })=fC X.aV:=mo (by rw [uU r];simp [ck.cells]);rw [e];exact (av.cM m h.cls h.fg (by simp) (by simp)).1) h.fg I
 exact ⟨_,B,D⟩
theorem b2.T6 (h:b2 A aw w aI X) {c:ck} (b:X.aV[i]?=some c) (n:Nat) :
  ∃ A',Next A A' aw aw w (w.setCell ⟨X.aX,0+i * 7+4,none⟩ (.int .i64 n))/\b2 A' aw (w.setCell ⟨X.aX,0+i * 7+4,none⟩ (.int .i64 n)) aI { X with aV:=X.aV.set i { c with waiting:=n } }:=by
 have d:ao (λk=>aw k=.aV) w (w.setCell ⟨X.aX,0+i * 7+4,none⟩ (.int .i64 n)):=(eY w X.aX _ _).mono λk _ e=>by rw [e];exact h.fg
 obtain ⟨m,aP⟩:=h.move (χ':=aw) (T:=λt=>t=.aV) d (by simp) (λ_ _ h=>h) (λ_ _ _ _=>rfl);have a:=(h.a1 i c b).cM m (λt g e=>by rw [e] at g;exact g);obtain ⟨l,_⟩:=k3 (k:=4) (c':={ c with waiting:=n }) h.cls b (by omega) (v:=.int .i64 n) (by simp [ck.cells]);obtain ⟨f,j⟩:=h.q5 (χ':=aw) (c':={ c with waiting:=n }) b (d.mono λk _ e=>.inl e) (λ_ _ h=>h) (λ_ _ _ _=>rfl) (λk b=>f8 (h.jH b) d.size) (by rw [sC];exact l) h.fg
  ⟨a.own,a.tag,a.lane,a.none,a.batch,a.ds⟩
 exact ⟨_,f,j⟩
def bU.ur (C:bU) (q:Nat) (p:dg) (ch:cP):Option aO->bU
 |none=>C
 |some x=>{ C with aD:=C.aD.set q ⟨p,ch.tail⟩,batch:=C.batch.map λds=>ds.set (ch.headD 0) x,waiting:=C.waiting - 1 }
theorem B9 {R:cB} {WH:a3} {Wo:Nat->Tag} {D:ak} {H:bL} {aA:Nat} {b:ck} {dd:dn} (h:b2 WH Wo D aI H) (Wm:H.aV[i]?=some b) (Wa:b.aD[q]?=some dd) (WI:b.la=some ⟨g,0,none⟩)
  (Wt:av D aA d.cells iR) (WG:Option aO) (ar:∀ x,WG=some x->lf WH D d x) (WQ:WG.isSome=true->∃ dk L ch,dd.bR=L::ch/\L<b.raw.length/\b.dk=some dk/\0<b.waiting) (hlen:dd.bR.length<=1024) (Xd:b.waiting<=1024)
  (W0:∀ w' A' χ' WV,Next WH A' Wo χ' D w'->b2 A' χ' w' aI WV->WV.pure=H.pure.fs i (b.pure.ur q dd.p.pure dd.bR WG)->R (.bool true) w') :
  (bif WG.isSome then (∀ E,E=D.drew->∃ O:aE,O E/\fk (some ⟨H.aX,0+i * 7,none⟩) λt=>∃ (batch:an) (qT:Nat) (I:Nat),(∀ u,O u->u.cell? ⟨t.block,t.off+3,none⟩=some (.slice batch qT I))/\∃ (bR:an) (n:Nat) (C:Nat),(∀ u,O u->u.cell? ⟨g,(0+q * 2)+1,none⟩=some (.slice bR n C))/\bm bR n 0 1 λWp=>∃ (W4:Int),(∀ u,O u->u.cell? Wp=some (.int .i64 W4))/\∃ (Code:Int) (Words:an) (l:Nat) (j:Nat),(∀ u,O u->b6 u ⟨aA,0,none⟩ 0 [(.int .i64 Code),(.slice Words l j)])/\bm batch qT W4 2 λWq=>ec E Wq 0 [(.int .i64 Code),(.slice Words l j)]/\∀ F,F=cr E Wq 0 [(.int .i64 Code),(.slice Words l j)]->∃ (B:an) (f:Nat) (c:Nat),F.cell? ⟨g,(0+q * 2)+1,none⟩=some (.slice B f c)/\hP B f c 1 (f:Nat) (c:Nat) 1 λWU Xf Xe=>Calls prog 71 #[(.slice WU Xf Xe)] F λe G=>∃ (N:an) (s:Nat) (o:Nat),e=.returned (.slice N s o)/\(∃ u,G.cell? ⟨g,(0+q * 2)+1,none⟩=some u)/\G.frozen? ⟨g,(0+q * 2)+1,none⟩=false/\∀ y,y=G.setCell ⟨g,(0+q * 2)+1,none⟩ (.slice N s o)->fk (some ⟨H.aX,0+i * 7,none⟩) λw=>∃ (waiting:Int),y.cell? ⟨w.block,w.off+4,none⟩=some (.int .i64 waiting)/\fk (some ⟨H.aX,0+i * 7,none⟩) λa=>(∃ u,y.cell? ⟨a.block,a.off+4,none⟩=some u)/\y.frozen? ⟨a.block,a.off+4,none⟩=false/\∀ V9,V9=y.setCell ⟨a.block,a.off+4,none⟩ (.int .i64 (IntKind.i64.wrap (waiting - 1)))->R (.bool true) V9) else (R (.bool true) D)):=by
 cases V6:WG with
 |none=>refine W0 D WH Wo H (h.refl (ao.refl _ _)) h ?_;rw [V6];show H.pure=H.pure.fs i b.pure;have:H.pure.aV.set i b.pure=H.pure.aV:=mo (by simp [bL.pure,Wm]);simp only [aN.fs,fU,this]
 |some x=>
  obtain ⟨dk,L,ch,A,WP,V2,Xc⟩:=WQ (by rw [V6];rfl);have WL:=ar x V6;intro E Wd;have M:Go.bu.ai D E:=by rw [Wd];exact cE _
  clear Wd;have Wf:=h.new M;have V3:=ai.aj M Wt;have Wh:=Wf.a1 i b Wm;have WO:=Wh.lane q dd Wa;obtain ⟨bV,Wi,W8,⟨W5,W7⟩,_,WM⟩:=a0.row Wh.own (nu b.aD) (by omega) (ml Wa);have U:bV=g:=by rw [WI] at Wi;simp at Wi;exact Wi.symm
  subst U;have Wk:(is (dd.bR.map Int.ofNat))[0]?=some (.int .i64 L):=by rw [A];rfl
  refine ⟨λz=>Go.bu.ai E z,ao.refl _ _,some ⟨dk,0,none⟩,b.raw.length,b.raw.length,λz au=>(Wf.new au).ih (k:=3) Wm (by simp [ck.cells,V2]),dd.kB,dd.bR.length,dd.k8,λz au=>jE au (WM 1 _ rfl) id,?_⟩;refine s0 (i:=0) WO.bR Wk rfl λWp Wg W6=>⟨L,λz au=>jE au Wg id,d.Code,d.Words,d.cK,d.cD,λz au=>sQ (ai.aj au V3),ee (by omega) (by omega) ?_⟩
  rw [fU];obtain ⟨Xg,WF,Z⟩:=Wf.T3 (q:=L) Wm V2 WP (WL.az (ao.b4 M) λ_ _ h=>h);refine ⟨gg (vs:=d.cells) (Wh.batch dk V2).1 ?_ (bO.single d),?_⟩
  ·rw [mj (xW _)];simp [fP,bO.cells];omega
  intro F We;have X:F=cr E ⟨dk,0+L * 2,none⟩ 0 d.cells:=We;rw [<-X] at WF Z;clear X;clear We;have Q:(H.aV.set i { b with raw:=b.raw.set L d,batch:=b.batch.set L x })[i]?=some { b with raw:=b.raw.set L d,batch:=b.batch.set L x }:=by simp [cb Wm]
  have T:=Z.a1 i _ Q;have Wj:=T.lane q dd Wa;obtain ⟨WJ,Wu,_,⟨WX,Wv⟩,_,Wx⟩:=a0.row T.own (nu b.aD) (by omega) (ml Wa);have U:WJ=bV:=by have:b.la=some ⟨WJ,0,none⟩:=Wu;rw [WI] at this;simp at this;exact this.symm
  subst U;refine ⟨dd.kB,dd.bR.length,dd.k8,Wx 1 _ rfl,?_⟩;have W:=Wj.bR;rcases W.2 with ⟨_,WZ,_⟩ | ⟨bQ,W3,WA,W9,WB,Xa,W_,Xb⟩
  ·rw [A] at WZ;cases WZ
  rw [WA];have W1:0<dd.bR.length:=by rw [A];simp
  refine kA (by omega) (by omega) (by omega) (by omega) WB ?_;intro WU WE;have WR:bh F WU (is (ch.map Int.ofNat)):=by
   by_cases Wc:ch=[]
   ·rw [Wc];exact .inl rfl
   ·rcases WE with e | ⟨e,_⟩
    ·rw [e];have:=W.rd;rw [WA] at this;have:=this.drop 1;rw [A] at this;simpa [is] using this
    ·exfalso;rw [A] at e;simp at e;exact Wc (fI (by omega))
  have WC:(Int.toNat (dd.bR.length:Int)) - Int.toNat 1=ch.length:=by rw [A];simp
  rw [WC];refine aC (Iu (by simp [is]) WR (Jv _) (by rw [A] at hlen;simp at hlen <;> omega) (λe=>by rcases WE with WW | ⟨_,WW⟩<;>rw [WW] at e<;>cases e)) ?_;rintro r G ⟨Wn,rc,rfl,Wb,V7,K,_⟩;have WK:=Z.new Wb;have J:=WK.a1 i _ Q;obtain ⟨Wr,V_,_,⟨WY,Ww⟩,_,Wy⟩:=a0.row J.own (nu b.aD) (by omega) (ml Wa);have U:Wr=WJ:=by have:b.la=some ⟨Wr,0,none⟩:=V_;rw [WI] at this;simp at this;exact this.symm
  subst U;refine ⟨_,_,_,rfl,⟨_,Wy 1 _ rfl⟩,Ww.frozen,?_⟩;intro y Y;have WN:Wo Wr=.aD i:=J.tag Wr ⟨0,V_⟩;have V':ao (λz=>z=Wr) G y:=by rw [Y];exact eY _ _ _ _
  have W2:∀ z,aL Wn z->Wo z=.bR i q\/G.heap.size<=z\/(F.heap.size<=z/\z<G.heap.size):=λz au=>.inr (by have:=K z au;omega)
  have V5:a0 y lE 2 b.la b.aD.length b.lc ((g1 b.aD).set q (dn.cells { dd with bR:=ch,kB:=Wn,k8:=rc })).flatten:=by have Wz:=J.own;have V:a0 G lE 2 b.la b.aD.length b.lc (g1 b.aD).flatten:=Wz;rw [WI] at V ⊢;rw [Y];have:=a0.setCell V (i:=q * 2+1) (by have:=cb Wa;omega) (.slice Wn ch.length rc);rw [yB (nu _) _ (ml Wa) (by omega)] at this;simpa [dn.cells] using this
  have V8:a0 y l7 1 Wn ch.length rc (is (ch.map Int.ofNat)):=V7.az V' λz au e=>by have Xj:=K z au;have Xk:=Wv.lt;omega
  clear Y;have V4:ao (λz=>q8 i q (Wo z)) F y:=(ao.b4 Wb).trans V' λz _ e=>.inr (by rw [e];exact WN)
  obtain ⟨Xh,Xl,WS,P⟩:=Z.GP Q Wa V4 (λz au=>.inr (K z au)) V8 V5;rw [jh] at P;have S:(H.aV.set i { b with raw:=b.raw.set L d,batch:=b.batch.set L x,aD:=b.aD.set q { dd with bR:=ch,kB:=Wn,k8:=rc } })[i]?=some { b with raw:=b.raw.set L d,batch:=b.batch.set L x,aD:=b.aD.set q { dd with bR:=ch,kB:=Wn,k8:=rc } }:=by simp [cb Wm]
  refine ⟨b.waiting,P.ih (k:=4) S rfl,⟨_,P.ih (k:=4) S rfl⟩,P.cls.frozen,?_⟩;rw [show IntKind.i64.wrap ((b.waiting:Int) - 1)=((b.waiting - 1:Nat):Int) by rw [bC (by omega) (by omega)];omega];obtain ⟨Xi,WT,Ws⟩:=P.T6 S (b.waiting - 1);intro V9 WD;rw [jh] at Ws;have Wl:V9=y.setCell ⟨H.aX,0+i * 7+4,none⟩ (.int .i64 (b.waiting - 1:Nat)):=WD;rw [Wl];refine W0 _ _ _ _ ((((h.refl M).trans WF).trans WS).trans WT) Ws ?_;refine (bL.xQ H i _).trans ?_;congr 1;rw [V6];simp [ck.pure,bU.ur,V2,A,iv,dn.pure]
end
section
theorem a0.PO {i:TypeInfo} (D:P.underlying t=some (.slice e)) (C:P.info? e=some i) (K:0<i.size)
  (p:a0 w e i.size (some ⟨g,0,none⟩) n cap xs) {s:aS} {news:ax} (o:news.length=m * i.size) (J:bh w (some s) news) (E:∀ u ∈ news,single u=true) (a:n+m<=cap) :
  ∃ w',(Builtin.append_ #[t,t] ty #[.slice (some ⟨g,0,none⟩) n cap,.slice (some s) m c]).run P w=.ok (.slice (some ⟨g,0,none⟩) (n+m) cap) w'/\a0 w' e i.size (some ⟨g,0,none⟩) (n+m) cap (xs++news)/\ao (λk=>k=g) w w':=by
 have hlen:(xs++news).length=(n+m) * i.size:=by rw [dI,p.1,o,rk]
 by_cases hm:m=0
 ·subst hm;have G:news=[]:=fI (by simpa using o);subst G;refine ⟨w,?_,by simpa using p,ao.refl _ _⟩;have hle:=p.le;simp [Builtin.append_,run_underlying D,sizeOf,typeInfo,C,Builtin.lenOf,hle,Builtin.firstCells,loadCells,loadCellsFrom,storeCells]
 ·have A:news≠[]:=by
   intro x;have q:m * i.size=0:=by rw [<-o,x];rfl
   rcases Nat.mul_eq_zero.1 q with h | h<;>omega
  rcases J with x | ⟨sb,so,he,d⟩
  ·exact absurd x A
  simp at he;subst he;have f:∀ j u,news[j]?=some u->w.cell? ((⟨sb,so,none⟩:aS).add j)=some u:=λj u hu=>by rw [k7];exact d j u hu
  have r:∀ u ∈ news,u.oneCell'=true:=λu hu=>G' (E u hu)
  rcases p.2 with ⟨q,_⟩ | ⟨bV,cur,he,B,H,y,z,l⟩
  ·cases q
  simp at he;subst he;have b:n * i.size+news.length<=cur.toArray.size:=by rw [o,List.size_toArray,z,<-rk];exact tc _ a
  have I:=run_append_room (P:=P) w t ty e i D C g n cap cur.toArray B ⟨sb,so,none⟩ m c news o f r a b;refine ⟨_,I,⟨hlen,.inr ⟨g,_,rfl,setRow_heap w g cur.toArray _ e _ B,a,y,?_,?_⟩⟩,⟨rfl,rfl,rfl,by simp,λk _ F=>setRow_other w g k _ (λe=>F e)⟩⟩
  ·simp only [dI,iM,l1] at *;simp at b <;> omega
  ·rw [l,<-hlen];exact List.take_left
theorem IZ {i:TypeInfo} {z:a2} (h:P.underlying t=some (.slice e)) (g:P.info? e=some i) (au:i.zero=some z) (d:z.cells=#[z]) {o:Nat} (hw:ec w ⟨b,o,none⟩ 0 [z]) :
  (Builtin.clear_ #[t] ty #[.slice (some ⟨b,o,none⟩) 1 c]).run P w=.ok (.tuple #[]) (cr w ⟨b,o,none⟩ 0 [z]):=by
 have a:=sM (P:=P) hw;have f:(Builtin.zeroCells z.cells 1).toList=[z]:=by rw [d];simp [Builtin.zeroCells]
 simp [Builtin.clear_,run_underlying h,zeroValue,typeInfo,g,au,f,a]
theorem a0.Un {e:Nat} (h:a0 w e 1 a n cap xs) (i:a≠none) (hm:m<=n):a0 w e 1 a m cap (xs.take m):=by
 rcases h.2 with ⟨f,_⟩ | ⟨g,cur,he,j,k,c,d,b⟩
 ·exact absurd f i
 ·refine ⟨by have:=h.1;simp;omega,.inr ⟨g,cur,he,j,by omega,c,d,?_⟩⟩;rw [<-b,List.take_take,Nat.min_eq_left (by omega),Nat.mul_one]
theorem Lt (h:a0 w oh 1 a n cap xs) (V_:i<n) (Z:∀ u ∈ xs,single u=true) :
  a9 89 [.slice a n cap,.int .i64 i,.int .i64 (i+1:Nat)] w λv w'=>v=.slice a (n - 1) cap/\a0 w' oh 1 a (n - 1) cap (xs.eraseIdx i)/\ao (aL a) w w':=by
 refine bc Tryz.func89 ?_;rw [P0];have V6:=h.1;rcases h.2 with ⟨_,U,_⟩ | ⟨g,cur,rfl,V9,p,G,V4,M⟩
 ·omega
 have V:cap<=9223372036854775807:=G;refine kA (by omega) (by omega) (by omega) (by omega) p ?_;intro V' _;refine dY (λhe=>by omega) (λ_=>?_)
 intro w1 D;have l:ai w w1:=by rw [D];exact cE _
 clear D;refine kA (by omega) (by omega) (by omega) (by omega) p ?_;intro O E;refine kA (by omega) (by omega) (by omega) (by omega) p ?_;intro Q j;have X:O=some ⟨g,0,none⟩:=by rcases E with e | ⟨_,e⟩<;>simpa using e
 subst X;simp only [fU,Int.toNat_zero,Nat.sub_zero];obtain ⟨s2,rfl⟩:∃ s,Q=some s:=by rcases j with e | ⟨_,e⟩<;>exact ⟨_,e⟩
 obtain ⟨V7,C,au,q,V3⟩:=fO (T:=103) (z:=.pointer none) (n:=1) (m:=8) (by kernel_rfl);have K:a0 w1 oh V7.size (some ⟨g,0,none⟩) i cap (xs.take i):=by rw [q];exact a0.Un (h.new l) (by simp) (by omega)
 have L:bh w1 (some s2) (xs.drop (i+1)):=by
  by_cases ar:xs.drop (i+1)=[]
  ·rw [ar];exact .inl rfl
  ·rcases j with e | ⟨e,_⟩
   ·rw [e];have:=(h.new l).rd.drop (i+1);simpa using this
   ·exfalso;apply ar;apply Bg;omega
 obtain ⟨W,f,b,I⟩:=a0.PO (P:=prog) (t:=106) (ty:=106) Tryz.underlying106 C (by omega) K (s:=s2) (m:=n - (i+1)) (c:=cap - (i+1)) (news:=xs.drop (i+1)) (by rw [q];simp;omega) L
  (λu hu=>Z u (oX hu)) (by omega)
 rw [q] at b;have H:i+(n - (i+1))=n - 1:=by omega
 rw [H] at f b;refine ⟨_,_,_,W,f,?_⟩;refine kA (by omega) (by omega) (by omega) (by omega) (by omega) ?_;intro R F;have Y:R=some ⟨g,0+(n - 1) * 1,none⟩:=by
  rcases F with e | ⟨e,_⟩
  ·simpa using e
  ·omega
 subst Y;have J:(Int.toNat (n:Int)) - Int.toNat ((n - 1:Nat):Int)=1:=by omega
 rw [J];rcases b.2 with ⟨U,_⟩ | ⟨V8,S,y,A,B,r,x,d⟩
 ·cases U
 simp at y;subst y;have N:ec W ⟨g,0+(n - 1) * 1,none⟩ 0 [.pointer none]:=gg A (by simp;omega) (by simp [single]);refine ⟨_,_,IZ (P:=prog) Tryz.underlying106 C au rfl N,rfl,?_,?_⟩
 ·have V2:=A.cr (o:=0+(n - 1) * 1) (i:=0) (vs:=[.pointer none]);have V5:xs.take i++xs.drop (i+1)=xs.eraseIdx i:=(List.eraseIdx_eq_take_drop_succ ..).symm;rw [V5] at b d;refine ⟨b.1,.inr ⟨g,_,rfl,V2,B,r,by rw [G_];exact x,?_⟩⟩;rw [py (by simp;omega)];rw [<-d];rw [lr,List.take_append_of_le_length (by simp;omega),List.take_take,Nat.min_eq_left (by omega)]
 ·exact ((ao.b4 l).trans I λk _ e=>⟨0,by rw [e]⟩).trans (h0 _ _ _ _ _) λk _ e=>⟨0,by rw [e]⟩
def lW (b n:Nat) (t:Tag):Prop:=t=.hL b\/t=.word n
theorem Kb {α:Type} {l:List α} (h:l.Nodup) {x:α} (g:l[i]?=some x) (k:l[j]?=some x):i=j:=by
 obtain ⟨b,c⟩:=lx.1 g;obtain ⟨d,e⟩:=lx.1 k;have f:=Bb.1 h;rcases Nat.lt_trichotomy i j with a | a | a
 ·exact absurd (c.trans e.symm) (f i j b d a)
 ·exact a
 ·exact absurd (e.trans c.symm) (f j i d b a)
theorem xZ {α β:Type} (f:α->β):∀ (l:List α) (i:Nat),(l.map f).eraseIdx i=(l.eraseIdx i).map f
 | [],_=>rfl
 | _::_,0=>rfl
 |x::l,i+1=>by simp [xZ f l i]
theorem b2.T4 {χ':Nat->Tag} (h:b2 A aw w aI X) (o:X.bP[i]?=some (b,p)) (u:X.nodes[n]?=some y)
  (c:ao (λk=>lW b n (aw k)) w w') (D:∀ k,k<w.heap.size->χ' k≠.cu->aw k≠.cu) (r:∀ k,k<w.heap.size->aw k≠.hL b->χ' k=aw k) (f:∀ k,χ' k≠.cu->k<w'.heap.size)
  (l:dZ w' y.b y.aJ n') (E:dK (gp A aw χ' w) w' b p') (F:∀ k,p'.mut b k->χ' k=.hL b) :
  Next A (gp A aw χ' w) aw χ' w w'/\b2 (gp A aw χ' w) χ' w' aI { X with nodes:=X.nodes.set n { y with n:=n' },bP:=X.bP.set i (b,p') }:=by
 obtain ⟨m,aP⟩:=h.move (T:=lW b n) c (by simp [lW]) D (λk j l _=>r k j λe=>l (.inl e));have f1:=av.cM m h.cd h.gH (by simp [lW]) (by simp);have f2:=a0.cM m h.nodes h.jJ (by simp [lW]) (by simp);have f3:=a0.cM m h.fZ h.j_ (by simp [lW]) (by simp);have f4:=av.cM m h.cls h.fg (by simp [lW]) (by simp);have a:=h.node n y u;have B:(X.bP.set i (b,p')).map Prod.fst=X.bP.map Prod.fst:=by rw [iv];exact mo (by simp [o])
 refine ⟨aP,m.ma,λk d=>?_,?_,f1.2,?_,f2.2,?_,f4.1,f4.2,λq z au=>(h.a1 q z au).cM m (λt s C=>?_),?_,f3.2,λx G=>?_,?_⟩
 ·rcases d with d | d
  ·exact f k d
  ·exact f8 d.1 c.size
 ·simpa [bL.cells] using f1.1
 ·have e:((X.nodes.set n { y with n:=n' }).map λx=>ptr x.b)=X.nodes.map λx=>ptr x.b:=by rw [iv];exact mo (by simp [u])
  rw [e];simpa using f2.1
 ·intro q z au;simp only [iu] at au;split at au
  ·rename_i he;subst he;split at au
   ·simp only [fe] at au;subst au;exact ⟨l,by rw [r _ a.node.node.lt (by rw [a.tag];simp)];exact a.tag,by rw [r _ a.node.words.lt (by rw [a.jQ];simp)];exact a.jQ⟩
   ·cases au
  ·rename_i he;exact (h.node q z au).cM m (by simp [lW]) (by simp [lW];exact λe=>he e.symm)
 ·rcases C with e | e<;>(rw [e] at s;cases s)
 ·have e:((X.bP.set i (b,p')).map λp=>ptr p.1)=X.bP.map λp=>ptr p.1:=by rw [iv];exact mo (by simp [o])
  rw [e];simpa using f3.1
 ·obtain ⟨k,c⟩:=eh.1 G;simp only [iu] at c;split at c
  ·rename_i he;subst he;split at c
   ·simp only [fe] at c;subst c;exact ⟨E,F⟩
   ·cases c
  ·rename_i he;have g:=h.ez x (b7 c);refine dK.cM m g.1 g.2 ?_ (by simp);rintro (e | e)
   ·simp at e;exact he (Kb (x:=b) h.nodup (by simp [o]) (by simp [c,e]))
   ·cases e
 ·show ((X.bP.set i (b,p')).map Prod.fst).Nodup;rw [B];exact h.nodup
theorem b2.PU (h:b2 A aw w aI X) (l:i<X.bP.length) (c:ao (λk=>aw k=.fZ\/aw k=.cd) w w')
  (n:a0 w' oh 1 X.dy (X.bP.length - 1) X.gL ((X.bP.map λp=>ptr p.1).eraseIdx i)) (j:av w' aI (X.cells.set 3 (.slice X.dy (X.bP.length - 1) X.gL)) lD) :
  ∃ A',Next A A' aw aw w w'/\b2 A' aw w' aI { X with bP:=X.bP.eraseIdx i }:=by
 obtain ⟨m,aP⟩:=h.move (T:=λt=>t=.fZ\/t=.cd) (χ':=aw) c (by simp) (λ_ _ h=>h) (λ_ _ _ _=>rfl);have f:(X.bP.eraseIdx i).length=X.bP.length - 1:=List.length_eraseIdx_of_lt l;refine ⟨_,aP,m.ma,λk a=>?_,?_,h.gH,(a0.cM m h.nodes h.jJ (by simp) (by simp)).1,h.jJ,λq z au=>(h.node q z au).cM m (by simp) (by simp),(av.cM m h.cls h.fg (by simp) (by simp)).1,h.fg,λq z au=>(h.a1 q z au).cM m (λt d g=>?_),?_,h.j_,λx o=>?_,?_⟩
 ·rcases a with a | a
  ·exact f8 (h.jH a) c.size
  ·exact f8 a.1 c.size
 ·simpa [bL.cells,f] using j
 ·rcases g with e | e<;>(rw [e] at d;cases d)
 ·show a0 w' oh 1 X.dy (X.bP.eraseIdx i).length X.gL ((X.bP.eraseIdx i).map λp=>ptr p.1);rw [f,<-xZ];exact n
 ·have b:=h.ez x (yz o);exact dK.cM m b.1 b.2 (by simp) (by simp)
 ·show ((X.bP.eraseIdx i).map Prod.fst).Nodup;rw [<-xZ];exact (List.eraseIdx_sublist ..).nodup h.nodup
theorem I0 (l:List (Nat×dG)):∀ u ∈ l.map (λp=>ptr p.1),single u=true:=by intro u hu;simp only [cT] at hu;obtain ⟨p,_,rfl⟩:=hu;rfl
theorem NJ (h:b2 A aw w aI X) (c:Int) (t:c<9223372036854775807):a9 62 [ptr aI,.int .i64 c] w λv w'=>
  v=.bool (X.pure.drop c).1/\dT A aw w aI (X.pure.drop c).2 w' λ_=>True:=by
 refine bc Tryz.func62 ?_;rw [ptr,RH];have s:X.pure.bP.length=X.bP.length:=by simp [bL.pure]
 refine a8 (λo=>?_) (λo=>⟨_,_,_,h.cd.cell rfl,a8 (λq=>?_) (λq=>?_)⟩)
 ·have ar:X.pure.drop c=(false,X.pure):=by unfold aN.drop;rw [if_pos (.inl o)]
  rw [ar];exact ⟨rfl,dT.same h (ao.refl _ _) trivial⟩
 ·have ar:X.pure.drop c=(false,X.pure):=by unfold aN.drop;rw [if_pos (.inr (by omega))]
  rw [ar];exact ⟨rfl,dT.same h (ao.refl _ _) trivial⟩
 ·have ar:X.pure.drop c=(true,{ X.pure with bP:=X.pure.bP.eraseIdx c.toNat }):=by unfold aN.drop;rw [if_neg (by omega)]
  rw [ar];obtain ⟨i,rfl⟩:∃ i:Nat,c=i:=⟨c.toNat,by omega⟩;refine ⟨_,_,_,h.cd.cell rfl,?_⟩;rw [show IntKind.i64.wrap ((i:Int)+1)=((i+1:Nat):Int) by rw [bC (by omega) (by omega)];rfl];refine aC (Lt h.fZ (by omega) (I0 _)) ?_;rintro v w1 ⟨rfl,n,l⟩;have a:ao (λk=>aw k=.fZ) w w1:=l.mono λk _ g=>h.j_ k g
  have b:=a.aj h.cd (by rw [h.gH];simp);refine ⟨_,_,_,rfl,⟨_,b.cell (i:=3) rfl⟩,b.frozen,?_⟩;intro p d;have f:ao (λk=>k=aI) w1 p:=by rw [d];exact eY _ _ _ _
  have j:av p aI (X.cells.set 3 (.slice X.dy (X.bP.length - 1) X.gL)) lD:=by rw [d];exact b.setCell _
  clear d;obtain ⟨A',aP,r⟩:=h.PU (i:=i) (by omega) ((a.mono λk _ e=>.inl e).trans f λk _ e=>.inr (by rw [e];exact h.gH)) (n.az f λk g e=>by have:=h.j_ k g;rw [e,h.gH] at this;cases this) j;refine ⟨rfl,_,_,_,aP,r,?_,trivial⟩;simp [bL.pure,xZ]
theorem dT.trans {A a:a3} {aw c:Nat->Tag} {w w1 b:ak} {aI:Nat} {F:aN} {K:(a3)->Prop} (n:Next A a aw c w w1) (h:dT a c w1 aI F b K):dT A aw w aI F b K:=by obtain ⟨d,j,e,fR,f,i,g⟩:=h;exact ⟨d,j,e,n.trans fR,f,i,g⟩
theorem Mt {e sz:Nat} (h:a0 w e sz a n cap xs):n<=9223372036854775807:=by
 rcases h.2 with ⟨_,c,_⟩ | ⟨g,cur,_,_,d,b,_⟩
 ·omega
 ·have:cap<=9223372036854775807:=b;omega
theorem H_ {α:Type} {l:List α} {x y:α} (h:l[i]?=some x):(l.set i y)[i]?=some y:=by simp [cb h]
theorem B_ {α:Type}:∀ (l:List α) (i:Nat) (x:α),(l.set i x).eraseIdx i=l.eraseIdx i
 | [],_,_=>rfl
 | _::_,0,_=>rfl
 |y::l,i+1,x=>by simp [B_ l i x]
theorem H' (h:b2 A aw w aI X) (O:nR X.pure) (i:Nat):a9 69 [ptr aI,.int .i64 i] w λv w'=>
  v=.bool (X.pure.iZ i).1/\dT A aw w aI (X.pure.iZ i).2 w' λ_=>True:=by
 refine bc Tryz.func69 ?_;rw [ptr,RI];have V9:X.pure.bP.length=X.bP.length:=by simp [bL.pure]
 refine ⟨_,_,_,h.cd.cell rfl,a8 (λY=>?_) (λY=>?_)⟩
 ·have ar:X.pure.iZ i=(false,X.pure):=by unfold aN.iZ;rw [lv (by omega)]
  rw [ar];exact ⟨rfl,dT.same h (ao.refl _ _) trivial⟩
 have J:i<X.bP.length:=by omega
 obtain ⟨b,p,x⟩:∃ b p,X.bP[i]?=some (b,p):=⟨X.bP[i].1,X.bP[i].2,by simp [J]⟩;have V_:=h.ez _ (b7 x);obtain ⟨V7,V8,E⟩:=O.ez p.pure (b7 (i:=i) (by simp [bL.pure,x]));obtain ⟨n,V6⟩:∃ n:Nat,p.node=n:=⟨p.node.toNat,by have:p.pure.node=p.node:=rfl;omega⟩;have M:n<X.nodes.length:=by
  have e:p.pure.node=p.node:=rfl;have T:X.pure.nodes.length=X.nodes.length:=by simp [bL.pure]
  omega
 obtain ⟨y,G⟩:∃ y,X.nodes[n]?=some y:=⟨X.nodes[n],by simp [M]⟩;have V':=h.node n y G;refine ⟨_,_,_,h.cd.cell rfl,?_⟩;refine s0 (v:=ptr b) (i:=i) h.fZ (by simp [x]) rfl λbx t _=>⟨some ⟨b,0,none⟩,t,?_⟩
 intro w1 F;have l:ai w w1:=by rw [F];exact cE _
 clear F;have a:=h.new l;have c:=a.ez _ (b7 x);have f:=a.node n y G;refine ⟨λu=>ao (λk=>lW b n (aw k)) w1 u,ao.refl _ _,_,_,_,λu hu=>(hu.aj a.cd (by rw [a.gH];simp [lW])).cell (i:=1) rfl,?_⟩;refine aC (Dp c.1) ?_;rintro r Wa ⟨rfl,rfl⟩;refine ⟨_,rfl,ao.refl _ _,?_⟩;refine s0 (v:=ptr y.b) (i:=n) a.nodes (by simp [G]) V6 λU o C=>⟨some ⟨y.b,0,none⟩,λu hu=>jE hu o ?_,?_⟩
 ·obtain ⟨g,V5,rfl⟩:=C;rw [show aw _=_ from a.jJ g ⟨0,V5⟩];simp [lW]
 refine aC (DG c.1 f.node (a.e9 _ (by rw [f.jQ];simp)) (a.e9 _ (by rw [f.tag];simp)) (λV2=>by have:=c.2 _ (.inr (.inr V2));rw [f.jQ] at this;cases this) E) ?_;intro r Wb Z;obtain ⟨χ',d,p',rfl,D,q,K,I,P,L,R,H,V4⟩:=B8 c.1 c.2 (by simp) (λk V3=>a.jH V3) a.e9 f.jQ Z;obtain ⟨aP,s⟩:=a.T4 x G K I P L q H R;refine ⟨_,_,_,_,_,rfl,?_⟩;have N:(X.bP.set i (b,p'))[i]?=some (b,p'):=H_ x;refine aC (xX (s.ez _ (b7 N)).1) ?_;rintro r Wc ⟨rfl,rfl⟩;have Q:X.pure.iZ i=(true,{ X.pure with nodes:=X.pure.nodes.set n (p.pure.step y.n).2.1,bP:=if (p.pure.step y.n).1.ba.length=0 then X.pure.bP.eraseIdx i else X.pure.bP.set i (p.pure.step y.n).1 }):=by
  unfold aN.iZ;have V:X.pure.bP[i]?=some p.pure:=by simp [bL.pure,x]
  have T:p.pure.node.toNat=n:=by show p.node.toNat=n;omega
  have W:X.pure.nodes[n]?=some y.n:=by simp [bL.pure,G]
  simp only [V,T,W]
 rw [Q];have al:p'.ba=(p.pure.step y.n).1.ba:=by rw [<-D];rfl
 refine ⟨_,rfl,dY (λau=>?_) (λau=>?_)⟩
 ·have B:(p.pure.step y.n).1.ba.length=0:=by rw [<-al];have S:(p'.ba.length:Int)=0:=au;omega
  refine aC (NJ s i (by have:=Mt h.fZ;omega)) ?_;rintro v Wd ⟨rfl,z⟩;refine ⟨_,rfl,rfl,?_⟩;have j:=dT.trans ((h.refl l).trans aP) z;have e:(bL.pure { X with nodes:=X.nodes.set n { y with n:=(p.pure.step y.n).2.1 },bP:=X.bP.set i (b,p') }).drop i=(true,{ X.pure with nodes:=X.pure.nodes.set n (p.pure.step y.n).2.1,bP:=X.pure.bP.eraseIdx i }):=by unfold aN.drop;rw [if_neg (by simp [bL.pure];omega)];simp [bL.pure,iv,B_]
  rw [e] at j;rw [if_pos B];exact j
 ·have B:¬ (p.pure.step y.n).1.ba.length=0:=by rw [<-al];have S:¬ (p'.ba.length:Int)=0:=au;omega
  rw [if_neg B];refine ⟨rfl,_,_,_,(h.refl l).trans aP,s,?_,trivial⟩;simp [bL.pure,iv,D]
theorem bL.T5 {c:ck} {l:dn} :
  (bL.pure { X with nodes:=X.nodes.set n { y with n:=n' },aV:=X.aV.set i { c with aD:=c.aD.set j { l with p:=p' } } }) =
   {X.pure with nodes:=X.pure.nodes.set n n',aV:=X.pure.aV.set i { c.pure with aD:=c.pure.aD.set j ⟨p'.pure,l.bR⟩ } }:=by
 simp [bL.pure,iv,ck.pure,dn.pure]
end
end Go.Proofs.YtmkljjbioomepaaGreat
