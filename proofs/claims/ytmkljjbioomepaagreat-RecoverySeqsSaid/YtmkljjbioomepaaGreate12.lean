import Derived.Test.YtmkljjbioomepaaGreate11
set_option linter.all false
set_option maxHeartbeats 4000000
set_option maxRecDepth 100000
namespace Go.Proofs.YtmkljjbioomepaaGreat
open Go.Proofs.Tryz Go.bn
variable {A:a2} {P:Program} {a:an} {b c cap aM g i j m n q:Nat} {e t ty:TypeId} {w w':al} {xs:aw}
section
theorem Ht (h:xs.length=n) (s:bg w a xs) (p:∀ u ∈ xs,single u=true) (x:n<=1000000000) (l:a=none->n=0) :
  ba 71 [.slice a n c] w λv w'=>∃ e cap,v=.slice e n cap/\r6 w w' 3 1 a e n cap xs:=by
 refine bc Tryz.func71 ?_;rw [Q6];obtain ⟨i,q,au,d,g⟩:=fp (T:=3) (z:=.int .i64 0) (n:=1) (m:=8) (by kernel_rfl);cases a with
 |none=>
  refine fK rfl ⟨none,0,by rw [l rfl],ao.refl _ _,?_,?_,by simp⟩
  ·rw [l rfl] at h ⊢;rw [fb h];exact aY.nil _ _ _
  ·rintro k ⟨o,r⟩;cases r
 |some a=>refine dw rfl ?_;rintro b1 w1 rfl rfl;obtain ⟨e,b,w',f,j⟩:=v9 (t:=22) (ty:=22) (z:=.int .i64 0) (n:=n) (c:=c) (w:=w) (a:=a) (xs:=xs) Tryz.underlying22 q au (by rw [d];rfl) (by omega) (by rw [h,d];omega) s p (by omega) (by rw [g];omega);exact ⟨e,n,b,w',f,e,b,rfl,by rw [d] at j;exact j⟩
theorem Af {ar:Nat->Tag} {fk fa:Nat} {p:da} {n:aH} {r:a0} {t kT:Tag} (j:dx A w b p) (f:∀ k,p.mut b k->ar k=t) (F:t≠.ck) (q:∀ k,ar k≠.ck->k<w.heap.size) (O:∀ k,ar k≠.ck->A k) (T:ar fa=kT)
  (S:wD A b fk fa p n w r w') :
  ∃ (χ':Nat->Tag) (d:bF) (p':da),r=.tuple #[d.val,.bool (p.pure.step n).2.2.isSome]/\p'.pure=(p.pure.step n).1/\dK w' fk fa (p.pure.step n).2.1/\ao (λk=>ar k=t\/ar k=kT) w w'/\
   (∀ k,k<w.heap.size->χ' k≠.ck->ar k≠.ck)/\(∀ k,k<w.heap.size->ar k≠t->χ' k=ar k)/\(∀ k,χ' k≠.ck->k<w'.heap.size)/\(∀ k,p'.mut b k->χ' k=t)/\dx (fQ A ar χ' w) w' b p'/\
   ∀ x,(p.pure.step n).2.2=some x->kK (fQ A ar χ' w) w' d x:=by
 classical
 obtain ⟨d,p',rfl,E,C,u,Q,l,h,U,V,P⟩:=S;have s:∀ k,p.mut b k->k<w.heap.size:=by
  rintro k (rfl | a | a)
  ·exact j.ak.lt
  ·exact j.own.lt a
  ·exact j.jU.lt a
 have i:∀ k,p'.mut b k->p.mut b k\/w.heap.size<=k:=by
  rintro k (a | a | a)
  ·exact .inl (.inl a)
  ·rcases U with e | e
   ·exact .inl (.inr (.inl (e▸a)))
   ·exact .inr (e k a)
  ·rcases V with e | e
   ·exact .inl (.inr (.inr (e▸a)))
   ·exact .inr (e k a)
 have D:=l (λk=>(k<w.heap.size/\A k)\/aL p'.cT k\/aL p'.c0 k) (λk a=>a) (λk a=>by
  rcases a with a | a | a
  ·exact .inl ⟨s k (.inl a),j.hS k (.inl a)⟩
  ·exact .inr (.inl a)
  ·exact .inr (.inr a))
 have B:∀ k,p'.mut b k->k<w'.heap.size:=by
  rintro k (rfl | a | a)
  ·exact D.ak.lt
  ·exact D.own.lt a
  ·exact D.jU.lt a
 let χ':Nat->Tag:=λk=>if p'.mut b k then t else if (p.pure.step n).2.2.isSome=true/\aL d.Words k then .ck else ar k
 have t1:∀ k,p'.mut b k->χ' k=t:=λk a=>if_pos a
 have t2:∀ k,¬ p'.mut b k->(p.pure.step n).2.2.isSome=true->aL d.Words k->χ' k=.ck:=λk g L M=>by show (if p'.mut b k then t else if (p.pure.step n).2.2.isSome=true/\aL d.Words k then Tag.ck else ar k)=_;rw [if_neg g,if_pos ⟨L,M⟩]
 have t3:∀ k,¬ p'.mut b k->¬ ((p.pure.step n).2.2.isSome=true/\aL d.Words k)->χ' k=ar k:=λk g L=>by show (if p'.mut b k then t else if (p.pure.step n).2.2.isSome=true/\aL d.Words k then Tag.ck else ar k)=_;rw [if_neg g,if_neg L]
 have J:∀ k,aL d.Words k->k<w.heap.size->ar k=t:=λk a z=>by
  rcases Q k a with g | g
  ·exact f k (.inr (.inr g))
  ·omega
 have Z:∀ k,k<w.heap.size->χ' k≠.ck->ar k≠.ck:=by
  intro k z c;by_cases hm:p'.mut b k
  ·rcases i k hm with g | g
   ·rw [f k g];exact F
   ·omega
  ·by_cases aA:(p.pure.step n).2.2.isSome=true/\aL d.Words k
   ·rw [t2 k hm aA.1 aA.2] at c;exact absurd rfl c
   ·rw [t3 k hm aA] at c;exact c
 have Uj:∀ k,k<w.heap.size->ar k≠t->χ' k=ar k:=by
  intro k z c;by_cases hm:p'.mut b k
  ·rcases i k hm with g | g
   ·exact absurd (f k g) c
   ·omega
  ·by_cases aA:(p.pure.step n).2.2.isSome=true/\aL d.Words k
   ·exact absurd (J k aA.2 z) c
   ·exact t3 k hm aA
 have Ui:∀ k,χ' k≠.ck->k<w'.heap.size:=by
  intro k c;by_cases hm:p'.mut b k
  ·exact B k hm
  ·by_cases aA:(p.pure.step n).2.2.isSome=true/\aL d.Words k
   ·rw [t2 k hm aA.1 aA.2] at c;exact absurd rfl c
   ·rw [t3 k hm aA] at c;exact fF (q k c) h.size
 have N:dx (fQ A ar χ' w) w' b p':=by
  refine l _ (λk a=>?_) (λk a=>.inl (by rw [t1 k a];exact F));rcases a with a | a
  ·by_cases hm:p'.mut b k
   ·rcases hm with hm | hm | hm
    ·exact .inl ⟨s k (.inl hm),j.hS k (.inl hm)⟩
    ·exact .inr (.inl hm)
    ·exact .inr (.inr hm)
   ·by_cases aA:(p.pure.step n).2.2.isSome=true/\aL d.Words k
    ·rw [t2 k hm aA.1 aA.2] at a;exact absurd rfl a
    ·rw [t3 k hm aA] at a;exact .inl ⟨q k a,O k a⟩
  ·exact .inl ⟨a.1,a.2.1⟩
 refine ⟨χ',d,p',rfl,E,C,h.mono λk _ a=>?_,Z,Uj,Ui,t1,N,λx X=>?_⟩
 ·rcases a with a | a | a
  ·exact .inl (f k (.inl a))
  ·exact .inl (f k (.inr (.inr a)))
  ·exact .inr (by rw [a];exact T)
 ·obtain ⟨d1,d2,d3,d4,d5,d6,d7⟩:=u x X;refine ⟨d1,d2,d3,d4,?_,d5,d6⟩;by_cases K:x.words=[]
  ·exact .inl K
  ·refine .inr ?_;rcases d3 with c | ⟨c9,Uk,G,_⟩
   ·exact absurd (by simpa [us] using c) K
   ·rw [G];have y:aL d.Words c9:=⟨Uk,G⟩;obtain ⟨cs,H⟩:=P c9 y;have R:¬ p'.mut b c9:=by
     rintro (a | a | ⟨o,W⟩)
     ·have:=av.iA H (a▸N.ak);revert this;decide
     ·obtain ⟨Y,I⟩:=fm N.own a;have:=av.iA H I;revert this;decide
     ·rw [d7] at W;cases W
    intro c;rcases c with c | ⟨g,_,M⟩
    ·exact c (t2 c9 R (by rw [X];rfl) y)
    ·exact F (by rw [<-J c9 y g];exact M)
theorem bX.Sk {ar:Nat->Tag} {X:bl} (h:bX A ar w aM X) {c9:Nat} {c:bU} {d:bF} {x:aC} (r:X.aU[i]?=some c) (g:c.c9=some c9) (H:q<c.raw.length) (aA:kK A w d x) :
  ∃ A',Next A A' ar ar w (cl w ⟨c9,0+q * 2,none⟩ 0 d.cells)/\bX A' ar (cl w ⟨c9,0+q * 2,none⟩ 0 d.cells) aM { X with aU:=X.aU.set i { c with raw:=c.raw.set q d,batch:=c.batch.set q x } }:=by
 have a:=h.aP i c r;obtain ⟨E,C⟩:=a.batch c9 g;rw [gG];have z:ao (λk=>ar k=.batch i) w (cl w ⟨c9,q * 2,none⟩ 0 d.cells):=(ht w c9 (q * 2) 0 d.cells).mono λk _ e=>by rw [e];exact C
 have p:=E.cl (o:=q * 2) (i:=0) (vs:=d.cells);rw [lz,F1 (wi _) (by simpa [fq] using H) rfl,IG] at p;obtain ⟨m,aZ⟩:=h.move (χ':=ar) (T:=λt=>t=.batch i) z (by simp) (λ_ _ h=>h) (λ_ _ _ _=>rfl);have f1:=aY.cM m a.own a.tag (by simp) (by simp);have I:kd (fQ A ar ar w) ar (cl w ⟨c9,q * 2,none⟩ 0 d.cells) i { c with raw:=c.raw.set q d,batch:=c.batch.set q x }:=by
  refine ⟨f1.1,f1.2,λj l F=>(a.lane j l F).cM m (by simp) (by simp),λG=>?_,λb u=>?_,?_,λk v y aj n=>?_⟩
  ·have s:c.c9=none:=G;rw [g] at s;cases s
  ·have f:c.c9=some b:=u;rw [g] at f;simp only [e7] at f;subst f;exact ⟨p,C⟩
  ·simp [a.ds.1]
  ·rw [iC] at aj n;by_cases he:q=k
   ·subst he;rw [if_pos rfl,if_pos (by omega)] at aj;rw [if_pos rfl,if_pos (by rw [<-a.ds.1];omega)] at n;simp only [e7] at aj n;subst aj;subst n;exact aA.ax m.qX m.old
   ·rw [if_neg he] at aj n;exact (a.ds.2 k v y aj n).ax m.qX m.old
 obtain ⟨B,D⟩:=h.pY (χ':=ar) r (z.mono λk _ e=>.inr (by rw [e];rfl)) (λ_ _ h=>h) (λ_ _ _ _=>rfl) (λk r=>fF (h.jl r) z.size) (by have e:(fj X.aU).set i (bU.cells { c with raw:=c.raw.set q d,batch:=c.batch.set q x })=fj X.aU:=iM (by rw [tn r];simp [bU.cells]);rw [e];exact (av.cM m h.cls h.eW (by simp) (by simp)).1) h.eW I
 exact ⟨_,B,D⟩
theorem bX.Sn {ar:Nat->Tag} {X:bl} (h:bX A ar w aM X) {c:bU} (b:X.aU[i]?=some c) (n:Nat) :
  ∃ A',Next A A' ar ar w (w.setCell ⟨X.aT,0+i * 7+4,none⟩ (.int .i64 n))/\bX A' ar (w.setCell ⟨X.aT,0+i * 7+4,none⟩ (.int .i64 n)) aM { X with aU:=X.aU.set i { c with waiting:=n } }:=by
 have d:ao (λk=>ar k=.aU) w (w.setCell ⟨X.aT,0+i * 7+4,none⟩ (.int .i64 n)):=(eA w X.aT _ _).mono λk _ e=>by rw [e];exact h.eW
 obtain ⟨m,aZ⟩:=h.move (χ':=ar) (T:=λt=>t=.aU) d (by simp) (λ_ _ h=>h) (λ_ _ _ _=>rfl);have a:=(h.aP i c b).cM m (λt g e=>by rw [e] at g;exact g);obtain ⟨l,_⟩:=kH (k:=4) (c':={ c with waiting:=n }) h.cls b (by omega) (v:=.int .i64 n) (by simp [bU.cells]);obtain ⟨f,j⟩:=h.pY (χ':=ar) (c':={ c with waiting:=n }) b (d.mono λk _ e=>.inl e) (λ_ _ h=>h) (λ_ _ _ _=>rfl) (λk b=>fF (h.jl b) d.size) (by rw [q9];exact l) h.eW
  ⟨a.own,a.tag,a.lane,a.none,a.batch,a.ds⟩
 exact ⟨_,f,j⟩
def bf.sP (C:bf) (q:Nat) (p:cF) (cn:d9):Option aC->bf
 |none=>C
 |some x=>{ C with ay:=C.ay.set q ⟨p,cn.tail⟩,batch:=C.batch.map λds=>ds.set (cn.headD 0) x,waiting:=C.waiting - 1 }
theorem Ag {R:cp} {UY:a2} {UF:Nat->Tag} {C:al} {G:bl} {az:Nat} {b8:bU} {b6:cV} {d:bF} (h:bX UY UF C aM G) (UD:G.aU[i]?=some b8) (Ur:b8.ay[q]?=some b6) (UZ:b8.la=some ⟨g,0,none⟩)
  (UK:av C az d.cells ij) (UX:Option aC) (aA:∀ x,UX=some x->kK UY C d x) (U7:UX.isSome=true->∃ c9 K cn,b6.bt=K::cn/\K<b8.raw.length/\b8.c9=some c9/\0<b8.waiting) (hlen:b6.bt.length<=1024) (Vu:b8.waiting<=1024)
  (Vg:∀ w' A' χ' Va,Next UY A' UF χ' C w'->bX A' χ' w' aM Va->Va.pure=G.pure.fS i (b8.pure.sP q b6.p.pure b6.bt UX)->R (.bool true) w') :
  (bif UX.isSome then (∀ D,D=C.drew->∃ N:aE,N D/\eZ (some ⟨G.aT,0+i * 7,none⟩) λs=>∃ (batch:an) (pP:Nat) (H:Nat),(∀ u,N u->u.cell? ⟨s.block,s.off+3,none⟩=some (.slice batch pP H))/\∃ (bt:an) (l:Nat) (B:Nat),(∀ u,N u->u.cell? ⟨g,(0+q * 2)+1,none⟩=some (.slice bt l B))/\bB bt l 0 1 λUG=>∃ (Vk:Int),(∀ u,N u->u.cell? UG=some (.int .i64 Vk))/\∃ (Code:Int) (Words:an) (j:Nat) (f:Nat),(∀ u,N u->b7 u ⟨az,0,none⟩ 0 [(.int .i64 Code),(.slice Words j f)])/\bB batch pP Vk 2 λUH=>dR D UH 0 [(.int .i64 Code),(.slice Words j f)]/\∀ E,E=cl D UH 0 [(.int .i64 Code),(.slice Words j f)]->∃ (A:an) (c:Nat) (b:Nat),E.cell? ⟨g,(0+q * 2)+1,none⟩=some (.slice A c b)/\ho A c b 1 (c:Nat) (b:Nat) 1 λU' Vw Vv=>Calls prog 71 #[(.slice U' Vw Vv)] E λe F=>∃ (M:an) (o:Nat) (n:Nat),e=.returned (.slice M o n)/\(∃ u,F.cell? ⟨g,(0+q * 2)+1,none⟩=some u)/\F.frozen? ⟨g,(0+q * 2)+1,none⟩=false/\∀ w,w=F.setCell ⟨g,(0+q * 2)+1,none⟩ (.slice M o n)->eZ (some ⟨G.aT,0+i * 7,none⟩) λt=>∃ (waiting:Int),w.cell? ⟨t.block,t.off+4,none⟩=some (.int .i64 waiting)/\eZ (some ⟨G.aT,0+i * 7,none⟩) λa=>(∃ u,w.cell? ⟨a.block,a.off+4,none⟩=some u)/\w.frozen? ⟨a.block,a.off+4,none⟩=false/\∀ Uo,Uo=w.setCell ⟨a.block,a.off+4,none⟩ (.int .i64 (IntKind.i64.wrap (waiting - 1)))->R (.bool true) Uo) else (R (.bool true) C)):=by
 cases Ul:UX with
 |none=>refine Vg C UY UF G (h.refl (ao.refl _ _)) h ?_;rw [Ul];show G.pure=G.pure.fS i b8.pure;have:G.pure.aU.set i b8.pure=G.pure.aU:=iM (by simp [bl.pure,UD]);simp only [aB.fS,fT,this]
 |some x=>
  obtain ⟨c9,K,cn,y,U6,Z,Vt⟩:=U7 (by rw [Ul];rfl);have U2:=aA x Ul;intro D Uu;have L:Go.bn.ai C D:=by rw [Uu];exact cL _
  clear Uu;have Uw:=h.new L;have Ui:=ai.ak L UK;have Uy:=Uw.aP i b8 UD;have U5:=Uy.lane q b6 Ur;obtain ⟨Vc,Uz,Vo,⟨Vl,Vn⟩,_,U3⟩:=aY.row Uy.own (mG b8.ay) (by omega) (lP Ur);have T:Vc=g:=by rw [UZ] at Uz;simp at Uz;exact Uz.symm
  subst T;have UB:(is (b6.bt.map Int.ofNat))[0]?=some (.int .i64 K):=by rw [y];rfl
  refine ⟨λz=>Go.bn.ai D z,ao.refl _ _,some ⟨c9,0,none⟩,b8.raw.length,b8.raw.length,λz au=>(Uw.new au).hO (k:=3) UD (by simp [bU.cells,Z]),b6.kf,b6.bt.length,b6.kM,λz au=>jj au (U3 1 _ rfl) id,?_⟩;refine rI (i:=0) U5.bt UB rfl λUG Ux Vm=>⟨K,λz au=>jj au Ux id,d.Code,d.Words,d.cG,d.cy,λz au=>ru (ai.ak au Ui),dT (by omega) (by omega) ?_⟩
  rw [fT];obtain ⟨Vx,UW,Y⟩:=Uw.Sk (q:=K) UD Z U6 (U2.ax (ao.bZ L) λ_ _ h=>h);refine ⟨fI (vs:=d.cells) (Uy.batch c9 Z).1 ?_ (bF.single d),?_⟩
  ·rw [lN (wi _)];simp [fq,bF.cells];omega
  intro E Uv;have W:E=cl D ⟨c9,0+K * 2,none⟩ 0 d.cells:=Uv;rw [<-W] at UW Y;clear W;clear Uv;have P:(G.aU.set i { b8 with raw:=b8.raw.set K d,batch:=b8.batch.set K x })[i]?=some { b8 with raw:=b8.raw.set K d,batch:=b8.batch.set K x }:=by simp [cz UD]
  have S:=Y.aP i _ P;have UA:=S.lane q b6 Ur;obtain ⟨U0,UL,_,⟨Vd,UM⟩,_,UO⟩:=aY.row S.own (mG b8.ay) (by omega) (lP Ur);have T:U0=Vc:=by have:b8.la=some ⟨U0,0,none⟩:=UL;rw [UZ] at this;simp at this;exact this.symm
  subst T;refine ⟨b6.kf,b6.bt.length,b6.kM,UO 1 _ rfl,?_⟩;have V:=UA.bt;rcases V.2 with ⟨_,Vf,_⟩ | ⟨fR,Vj,UR,Vp,US,Vr,Vq,Vs⟩
  ·rw [y] at Vf;cases Vf
  rw [UR];have Vh:0<b6.bt.length:=by rw [y];simp
  refine kc (by omega) (by omega) (by omega) (by omega) US ?_;intro U' UV;have U8:bg E U' (is (cn.map Int.ofNat)):=by
   by_cases Ut:cn=[]
   ·rw [Ut];exact .inl rfl
   ·rcases UV with e | ⟨e,_⟩
    ·rw [e];have:=V.rd;rw [UR] at this;have:=this.drop 1;rw [y] at this;simpa [is] using this
    ·exfalso;rw [y] at e;simp at e;exact Ut (fb (by omega))
  have UT:(Int.toNat (b6.bt.length:Int)) - Int.toNat 1=cn.length:=by rw [y];simp
  rw [UT];refine aD (Ht (by simp [is]) U8 (IY _) (by rw [y] at hlen;simp at hlen <;> omega) (λe=>by rcases UV with Vb | ⟨_,Vb⟩<;>rw [Vb] at e<;>cases e)) ?_;rintro r F ⟨UE,rc,rfl,Us,Um,J,_⟩;have U1:=Y.new Us;have I:=U1.aP i _ P;obtain ⟨UI,Up,_,⟨Ve,UN⟩,_,UP⟩:=aY.row I.own (mG b8.ay) (by omega) (lP Ur);have T:UI=U0:=by have:b8.la=some ⟨UI,0,none⟩:=Up;rw [UZ] at this;simp at this;exact this.symm
  subst T;refine ⟨_,_,_,rfl,⟨_,UP 1 _ rfl⟩,UN.frozen,?_⟩;intro w X;have U4:UF UI=.ay i:=I.tag UI ⟨0,Up⟩;have Uq:ao (λz=>z=UI) F w:=by rw [X];exact eA _ _ _ _
  have Vi:∀ z,aL UE z->UF z=.bt i q\/F.heap.size<=z\/(E.heap.size<=z/\z<F.heap.size):=λz au=>.inr (by have:=J z au;omega)
  have Uk:aY w k5 2 b8.la b8.ay.length b8.lc ((gE b8.ay).set q (cV.cells { b6 with bt:=cn,kf:=UE,kM:=rc })).flatten:=by have UQ:=I.own;have U:aY F k5 2 b8.la b8.ay.length b8.lc (gE b8.ay).flatten:=UQ;rw [UZ] at U ⊢;rw [X];have:=aY.setCell U (i:=q * 2+1) (by have:=cz Ur;omega) (.slice UE cn.length rc);rw [xe (mG _) _ (lP Ur) (by omega)] at this;simpa [cV.cells] using this
  have Un:aY w lF 1 UE cn.length rc (is (cn.map Int.ofNat)):=Um.ax Uq λz au e=>by have VA:=J z au;have VB:=UM.lt;omega
  clear X;have Uj:ao (λz=>pZ i q (UF z)) E w:=(ao.bZ Us).trans Uq λz _ e=>.inr (by rw [e];exact U4)
  obtain ⟨Vy,VC,U9,O⟩:=Y.Fg P Ur Uj (λz au=>.inr (J z au)) Un Uk;rw [iJ] at O;have Q:(G.aU.set i { b8 with raw:=b8.raw.set K d,batch:=b8.batch.set K x,ay:=b8.ay.set q { b6 with bt:=cn,kf:=UE,kM:=rc } })[i]?=some { b8 with raw:=b8.raw.set K d,batch:=b8.batch.set K x,ay:=b8.ay.set q { b6 with bt:=cn,kf:=UE,kM:=rc } }:=by simp [cz UD]
  refine ⟨b8.waiting,O.hO (k:=4) Q rfl,⟨_,O.hO (k:=4) Q rfl⟩,O.cls.frozen,?_⟩;rw [show IntKind.i64.wrap ((b8.waiting:Int) - 1)=((b8.waiting - 1:Nat):Int) by rw [bA (by omega) (by omega)];omega];obtain ⟨Vz,U_,UJ⟩:=O.Sn Q (b8.waiting - 1);intro Uo UU;rw [iJ] at UJ;have UC:Uo=w.setCell ⟨G.aT,0+i * 7+4,none⟩ (.int .i64 (b8.waiting - 1:Nat)):=UU;rw [UC];refine Vg _ _ _ _ ((((h.refl L).trans UW).trans U9).trans U_) UJ ?_;refine (bl.v' G i _).trans ?_;congr 1;rw [Ul];simp [bU.pure,bf.sP,Z,y,iD,cV.pure]
end
section
theorem aY.Ol {i:TypeInfo} (D:P.underlying t=some (.slice e)) (C:P.info? e=some i) (K:0<i.size)
  (p:aY w e i.size (some ⟨g,0,none⟩) n cap xs) {s:aV} {news:aw} (o:news.length=m * i.size) (J:bg w (some s) news) (E:∀ u ∈ news,single u=true) (a:n+m<=cap) :
  ∃ w',(Builtin.append_ #[t,t] ty #[.slice (some ⟨g,0,none⟩) n cap,.slice (some s) m c]).run P w=.ok (.slice (some ⟨g,0,none⟩) (n+m) cap) w'/\aY w' e i.size (some ⟨g,0,none⟩) (n+m) cap (xs++news)/\ao (λk=>k=g) w w':=by
 have hlen:(xs++news).length=(n+m) * i.size:=by rw [c8,p.1,o,p8]
 by_cases hm:m=0
 ·subst hm;have G:news=[]:=fb (by simpa using o);subst G;refine ⟨w,?_,by simpa using p,ao.refl _ _⟩;have hle:=p.le;simp [Builtin.append_,run_underlying D,sizeOf,typeInfo,C,Builtin.lenOf,hle,Builtin.firstCells,loadCells,loadCellsFrom,storeCells]
 ·have A:news≠[]:=by
   intro x;have q:m * i.size=0:=by rw [<-o,x];rfl
   rcases Nat.mul_eq_zero.1 q with h | h<;>omega
  rcases J with x | ⟨sb,so,he,d⟩
  ·exact absurd x A
  simp at he;subst he;have f:∀ j u,news[j]?=some u->w.cell? ((⟨sb,so,none⟩:aV).add j)=some u:=λj u hu=>by rw [kJ];exact d j u hu
  have r:∀ u ∈ news,u.oneCell'=true:=λu hu=>FC (E u hu)
  rcases p.2 with ⟨q,_⟩ | ⟨L,cur,he,B,H,y,z,l⟩
  ·cases q
  simp at he;subst he;have b:n * i.size+news.length<=cur.toArray.size:=by rw [o,List.size_toArray,z,<-p8];exact rZ _ a
  have I:=run_append_room (P:=P) w t ty e i D C g n cap cur.toArray B ⟨sb,so,none⟩ m c news o f r a b;refine ⟨_,I,⟨hlen,.inr ⟨g,_,rfl,setRow_heap w g cur.toArray _ e _ B,a,y,?_,?_⟩⟩,⟨rfl,rfl,rfl,by simp,λk _ F=>setRow_other w g k _ (λe=>F e)⟩⟩
  ·simp only [c8,gR,jY] at *;simp at b <;> omega
  ·rw [l,<-hlen];exact List.take_left
theorem Ii {i:TypeInfo} {z:a0} (h:P.underlying t=some (.slice e)) (g:P.info? e=some i) (au:i.zero=some z) (d:z.cells=#[z]) {o:Nat} (hw:dR w ⟨b,o,none⟩ 0 [z]) :
  (Builtin.clear_ #[t] ty #[.slice (some ⟨b,o,none⟩) 1 c]).run P w=.ok (.tuple #[]) (cl w ⟨b,o,none⟩ 0 [z]):=by
 have a:=rp (P:=P) hw;have f:(Builtin.zeroCells z.cells 1).toList=[z]:=by rw [d];simp [Builtin.zeroCells]
 simp [Builtin.clear_,run_underlying h,zeroValue,typeInfo,g,au,f,a]
theorem aY.SH {e:Nat} (h:aY w e 1 a n cap xs) (i:a≠none) (hm:m<=n):aY w e 1 a m cap (xs.take m):=by
 rcases h.2 with ⟨f,_⟩ | ⟨g,cur,he,j,k,c,d,b⟩
 ·exact absurd f i
 ·refine ⟨by have:=h.1;simp;omega,.inr ⟨g,cur,he,j,by omega,c,d,?_⟩⟩;rw [<-b,List.take_take,Nat.min_eq_left (by omega),Nat.mul_one]
theorem KC (h:aY w nu 1 a n cap xs) (Uq:i<n) (Z:∀ u ∈ xs,single u=true) :
  ba 89 [.slice a n cap,.int .i64 i,.int .i64 (i+1:Nat)] w λv w'=>v=.slice a (n - 1) cap/\aY w' nu 1 a (n - 1) cap (xs.eraseIdx i)/\ao (aL a) w w':=by
 refine bc Tryz.func89 ?_;rw [OC];have Um:=h.1;rcases h.2 with ⟨_,U,_⟩ | ⟨g,cur,rfl,Up,p,G,Uk,M⟩
 ·omega
 have V:cap<=9223372036854775807:=G;refine kc (by omega) (by omega) (by omega) (by omega) p ?_;intro Ur _;refine dJ (λhe=>by omega) (λ_=>?_)
 intro w1 D;have l:ai w w1:=by rw [D];exact cL _
 clear D;refine kc (by omega) (by omega) (by omega) (by omega) p ?_;intro O E;refine kc (by omega) (by omega) (by omega) (by omega) p ?_;intro Q j;have X:O=some ⟨g,0,none⟩:=by rcases E with e | ⟨_,e⟩<;>simpa using e
 subst X;simp only [fT,Int.toNat_zero,Nat.sub_zero];obtain ⟨s2,rfl⟩:∃ s,Q=some s:=by rcases j with e | ⟨_,e⟩<;>exact ⟨_,e⟩
 obtain ⟨Un,C,au,q,Uj⟩:=fp (T:=103) (z:=.pointer none) (n:=1) (m:=8) (by kernel_rfl);have K:aY w1 nu Un.size (some ⟨g,0,none⟩) i cap (xs.take i):=by rw [q];exact aY.SH (h.new l) (by simp) (by omega)
 have L:bg w1 (some s2) (xs.drop (i+1)):=by
  by_cases aA:xs.drop (i+1)=[]
  ·rw [aA];exact .inl rfl
  ·rcases j with e | ⟨e,_⟩
   ·rw [e];have:=(h.new l).rd.drop (i+1);simpa using this
   ·exfalso;apply aA;apply wV;omega
 obtain ⟨W,f,b,I⟩:=aY.Ol (P:=prog) (t:=106) (ty:=106) Tryz.underlying106 C (by omega) K (s:=s2) (m:=n - (i+1)) (c:=cap - (i+1)) (news:=xs.drop (i+1)) (by rw [q];simp;omega) L
  (λu hu=>Z u (n1 hu)) (by omega)
 rw [q] at b;have H:i+(n - (i+1))=n - 1:=by omega
 rw [H] at f b;refine ⟨_,_,_,W,f,?_⟩;refine kc (by omega) (by omega) (by omega) (by omega) (by omega) ?_;intro R F;have Y:R=some ⟨g,0+(n - 1) * 1,none⟩:=by
  rcases F with e | ⟨e,_⟩
  ·simpa using e
  ·omega
 subst Y;have J:(Int.toNat (n:Int)) - Int.toNat ((n - 1:Nat):Int)=1:=by omega
 rw [J];rcases b.2 with ⟨U,_⟩ | ⟨Uo,S,y,A,B,r,x,d⟩
 ·cases U
 simp at y;subst y;have N:dR W ⟨g,0+(n - 1) * 1,none⟩ 0 [.pointer none]:=fI A (by simp;omega) (by simp [single]);refine ⟨_,_,Ii (P:=prog) Tryz.underlying106 C au rfl N,rfl,?_,?_⟩
 ·have Ui:=A.cl (o:=0+(n - 1) * 1) (i:=0) (vs:=[.pointer none]);have Ul:xs.take i++xs.drop (i+1)=xs.eraseIdx i:=(List.eraseIdx_eq_take_drop_succ ..).symm;rw [Ul] at b d;refine ⟨b.1,.inr ⟨g,_,rfl,Ui,B,r,by rw [FB];exact x,?_⟩⟩;rw [oA (by simp;omega)];rw [<-d];rw [jW,List.take_append_of_le_length (by simp;omega),List.take_take,Nat.min_eq_left (by omega)]
 ·exact ((ao.bZ l).trans I λk _ e=>⟨0,by rw [e]⟩).trans (ht _ _ _ _ _) λk _ e=>⟨0,by rw [e]⟩
def lu (b n:Nat) (t:Tag):Prop:=t=.hC b\/t=.word n
theorem II {α:Type} {l:List α} (h:l.Nodup) {x:α} (g:l[i]?=some x) (k:l[j]?=some x):i=j:=by
 obtain ⟨b,c⟩:=kY.1 g;obtain ⟨d,e⟩:=kY.1 k;have f:=w6.1 h;rcases Nat.lt_trichotomy i j with a | a | a
 ·exact absurd (c.trans e.symm) (f i j b d a)
 ·exact a
 ·exact absurd (e.trans c.symm) (f j i d b a)
theorem wo {α β:Type} (f:α->β):∀ (l:List α) (i:Nat),(l.map f).eraseIdx i=(l.eraseIdx i).map f
 | [],_=>rfl
 | _::_,0=>rfl
 |x::l,i+1=>by simp [wo f l i]
theorem bX.Sl {ar χ':Nat->Tag} {X:bl} (h:bX A ar w aM X) {p:da} {y:iz} (o:X.bP[i]?=some (b,p)) (u:X.nodes[n]?=some y)
  (c:ao (λk=>lu b n (ar k)) w w') (D:∀ k,k<w.heap.size->χ' k≠.ck->ar k≠.ck) (r:∀ k,k<w.heap.size->ar k≠.hC b->χ' k=ar k) (f:∀ k,χ' k≠.ck->k<w'.heap.size)
  {n':aH} (l:dK w' y.b y.aK n') {p':da} (E:dx (fQ A ar χ' w) w' b p') (F:∀ k,p'.mut b k->χ' k=.hC b) :
  Next A (fQ A ar χ' w) ar χ' w w'/\bX (fQ A ar χ' w) χ' w' aM { X with nodes:=X.nodes.set n { y with n:=n' },bP:=X.bP.set i (b,p') }:=by
 obtain ⟨m,aZ⟩:=h.move (T:=lu b n) c (by simp [lu]) D (λk j l _=>r k j λe=>l (.inl e));have f1:=av.cM m h.b9 h.gm (by simp [lu]) (by simp);have f2:=aY.cM m h.nodes h.jq (by simp [lu]) (by simp);have f3:=aY.cM m h.fD h.jK (by simp [lu]) (by simp);have f4:=av.cM m h.cls h.eW (by simp [lu]) (by simp);have a:=h.node n y u;have B:(X.bP.set i (b,p')).map Prod.fst=X.bP.map Prod.fst:=by rw [iD];exact iM (by simp [o])
 refine ⟨aZ,m.lI,λk d=>?_,?_,f1.2,?_,f2.2,?_,f4.1,f4.2,λq z au=>(h.aP q z au).cM m (λt s C=>?_),?_,f3.2,λx G=>?_,?_⟩
 ·rcases d with d | d
  ·exact f k d
  ·exact fF d.1 c.size
 ·simpa [bl.cells] using f1.1
 ·have e:((X.nodes.set n { y with n:=n' }).map λx=>ptr x.b)=X.nodes.map λx=>ptr x.b:=by rw [iD];exact iM (by simp [u])
  rw [e];simpa using f2.1
 ·intro q z au;simp only [iC] at au;split at au
  ·rename_i he;subst he;split at au
   ·simp only [e7] at au;subst au;exact ⟨l,by rw [r _ a.node.node.lt (by rw [a.tag];simp)];exact a.tag,by rw [r _ a.node.words.lt (by rw [a.ju];simp)];exact a.ju⟩
   ·cases au
  ·rename_i he;exact (h.node q z au).cM m (by simp [lu]) (by simp [lu];exact λe=>he e.symm)
 ·rcases C with e | e<;>(rw [e] at s;cases s)
 ·have e:((X.bP.set i (b,p')).map λp=>ptr p.1)=X.bP.map λp=>ptr p.1:=by rw [iD];exact iM (by simp [o])
  rw [e];simpa using f3.1
 ·obtain ⟨k,c⟩:=gh.1 G;simp only [iC] at c;split at c
  ·rename_i he;subst he;split at c
   ·simp only [e7] at c;subst c;exact ⟨E,F⟩
   ·cases c
  ·rename_i he;have g:=h.ea x (cj c);refine dx.cM m g.1 g.2 ?_ (by simp);rintro (e | e)
   ·simp at e;exact he (II (x:=b) h.nodup (by simp [o]) (by simp [c,e]))
   ·cases e
 ·show ((X.bP.set i (b,p')).map Prod.fst).Nodup;rw [B];exact h.nodup
theorem bX.Oq {ar:Nat->Tag} {X:bl} (h:bX A ar w aM X) (l:i<X.bP.length) (c:ao (λk=>ar k=.fD\/ar k=.b9) w w')
  (n:aY w' nu 1 X.dg (X.bP.length - 1) X.gq ((X.bP.map λp=>ptr p.1).eraseIdx i)) (j:av w' aM (X.cells.set 3 (.slice X.dg (X.bP.length - 1) X.gq)) k4) :
  ∃ A',Next A A' ar ar w w'/\bX A' ar w' aM { X with bP:=X.bP.eraseIdx i }:=by
 obtain ⟨m,aZ⟩:=h.move (T:=λt=>t=.fD\/t=.b9) (χ':=ar) c (by simp) (λ_ _ h=>h) (λ_ _ _ _=>rfl);have f:(X.bP.eraseIdx i).length=X.bP.length - 1:=List.length_eraseIdx_of_lt l;refine ⟨_,aZ,m.lI,λk a=>?_,?_,h.gm,(aY.cM m h.nodes h.jq (by simp) (by simp)).1,h.jq,λq z au=>(h.node q z au).cM m (by simp) (by simp),(av.cM m h.cls h.eW (by simp) (by simp)).1,h.eW,λq z au=>(h.aP q z au).cM m (λt d g=>?_),?_,h.jK,λx o=>?_,?_⟩
 ·rcases a with a | a
  ·exact fF (h.jl a) c.size
  ·exact fF a.1 c.size
 ·simpa [bl.cells,f] using j
 ·rcases g with e | e<;>(rw [e] at d;cases d)
 ·show aY w' nu 1 X.dg (X.bP.eraseIdx i).length X.gq ((X.bP.eraseIdx i).map λp=>ptr p.1);rw [f,<-wo];exact n
 ·have b:=h.ea x (z2 o);exact dx.cM m b.1 b.2 (by simp) (by simp)
 ·show ((X.bP.eraseIdx i).map Prod.fst).Nodup;rw [<-wo];exact (List.eraseIdx_sublist ..).nodup h.nodup
theorem Ij (l:List (Nat×da)):∀ u ∈ l.map (λp=>ptr p.1),single u=true:=by intro u hu;simp only [cD] at hu;obtain ⟨p,_,rfl⟩:=hu;rfl
theorem M4 {ar:Nat->Tag} {X:bl} (h:bX A ar w aM X) (c:Int) (t:c<9223372036854775807):ba 62 [ptr aM,.int .i64 c] w λv w'=>
  v=.bool (X.pure.drop c).1/\dD A ar w aM (X.pure.drop c).2 w' λ_=>True:=by
 refine bc Tryz.func62 ?_;rw [ptr,Qn];have s:X.pure.bP.length=X.bP.length:=by simp [bl.pure]
 refine a9 (λo=>?_) (λo=>⟨_,_,_,h.b9.cell rfl,a9 (λq=>?_) (λq=>?_)⟩)
 ·have aA:X.pure.drop c=(false,X.pure):=by unfold aB.drop;rw [if_pos (.inl o)]
  rw [aA];exact ⟨rfl,dD.same h (ao.refl _ _) trivial⟩
 ·have aA:X.pure.drop c=(false,X.pure):=by unfold aB.drop;rw [if_pos (.inr (by omega))]
  rw [aA];exact ⟨rfl,dD.same h (ao.refl _ _) trivial⟩
 ·have aA:X.pure.drop c=(true,{ X.pure with bP:=X.pure.bP.eraseIdx c.toNat }):=by unfold aB.drop;rw [if_neg (by omega)]
  rw [aA];obtain ⟨i,rfl⟩:∃ i:Nat,c=i:=⟨c.toNat,by omega⟩;refine ⟨_,_,_,h.b9.cell rfl,?_⟩;rw [show IntKind.i64.wrap ((i:Int)+1)=((i+1:Nat):Int) by rw [bA (by omega) (by omega)];rfl];refine aD (KC h.fD (by omega) (Ij _)) ?_;rintro v w1 ⟨rfl,n,l⟩;have a:ao (λk=>ar k=.fD) w w1:=l.mono λk _ g=>h.jK k g
  have b:=a.ak h.b9 (by rw [h.gm];simp);refine ⟨_,_,_,rfl,⟨_,b.cell (i:=3) rfl⟩,b.frozen,?_⟩;intro p d;have f:ao (λk=>k=aM) w1 p:=by rw [d];exact eA _ _ _ _
  have j:av p aM (X.cells.set 3 (.slice X.dg (X.bP.length - 1) X.gq)) k4:=by rw [d];exact b.setCell _
  clear d;obtain ⟨A',aZ,r⟩:=h.Oq (i:=i) (by omega) ((a.mono λk _ e=>.inl e).trans f λk _ e=>.inr (by rw [e];exact h.gm)) (n.ax f λk g e=>by have:=h.jK k g;rw [e,h.gm] at this;cases this) j;refine ⟨rfl,_,_,_,aZ,r,?_,trivial⟩;simp [bl.pure,wo]
theorem dD.trans {A a:a2} {ar c:Nat->Tag} {w w1 b:al} {aM:Nat} {F:aB} {K:(a2)->Prop} (n:Next A a ar c w w1) (h:dD a c w1 aM F b K):dD A ar w aM F b K:=by obtain ⟨d,k,e,j,f,i,g⟩:=h;exact ⟨d,k,e,n.trans j,f,i,g⟩
theorem LU {e sz:Nat} (h:aY w e sz a n cap xs):n<=9223372036854775807:=by
 rcases h.2 with ⟨_,c,_⟩ | ⟨g,cur,_,_,d,b,_⟩
 ·omega
 ·have:cap<=9223372036854775807:=b;omega
theorem GJ {α:Type} {l:List α} {x y:α} (h:l[i]?=some x):(l.set i y)[i]?=some y:=by simp [cz h]
theorem Ah {α:Type}:∀ (l:List α) (i:Nat) (x:α),(l.set i x).eraseIdx i=l.eraseIdx i
 | [],_,_=>rfl
 | _::_,0,_=>rfl
 |y::l,i+1,x=>by simp [Ah l i x]
theorem GK {ar:Nat->Tag} {X:bl} (h:bX A ar w aM X) (O:nb X.pure) (i:Nat):ba 69 [ptr aM,.int .i64 i] w λv w'=>
  v=.bool (X.pure.jb i).1/\dD A ar w aM (X.pure.jb i).2 w' λ_=>True:=by
 refine bc Tryz.func69 ?_;rw [ptr,Qo];have Up:X.pure.bP.length=X.bP.length:=by simp [bl.pure]
 refine ⟨_,_,_,h.b9.cell rfl,a9 (λY=>?_) (λY=>?_)⟩
 ·have aA:X.pure.jb i=(false,X.pure):=by unfold aB.jb;rw [kX (by omega)]
  rw [aA];exact ⟨rfl,dD.same h (ao.refl _ _) trivial⟩
 have J:i<X.bP.length:=by omega
 obtain ⟨b,p,x⟩:∃ b p,X.bP[i]?=some (b,p):=⟨X.bP[i].1,X.bP[i].2,by simp [J]⟩;have Uq:=h.ea _ (cj x);obtain ⟨Un,Uo,E⟩:=O.ea p.pure (cj (i:=i) (by simp [bl.pure,x]));obtain ⟨n,Um⟩:∃ n:Nat,p.node=n:=⟨p.node.toNat,by have:p.pure.node=p.node:=rfl;omega⟩;have M:n<X.nodes.length:=by
  have e:p.pure.node=p.node:=rfl;have T:X.pure.nodes.length=X.nodes.length:=by simp [bl.pure]
  omega
 obtain ⟨y,G⟩:∃ y,X.nodes[n]?=some y:=⟨X.nodes[n],by simp [M]⟩;have Ur:=h.node n y G;refine ⟨_,_,_,h.b9.cell rfl,?_⟩;refine rI (v:=ptr b) (i:=i) h.fD (by simp [x]) rfl λbu t _=>⟨some ⟨b,0,none⟩,t,?_⟩
 intro w1 F;have l:ai w w1:=by rw [F];exact cL _
 clear F;have a:=h.new l;have c:=a.ea _ (cj x);have f:=a.node n y G;refine ⟨λu=>ao (λk=>lu b n (ar k)) w1 u,ao.refl _ _,_,_,_,λu hu=>(hu.ak a.b9 (by rw [a.gm];simp [lu])).cell (i:=1) rfl,?_⟩;refine aD (BV c.1) ?_;rintro r Us ⟨rfl,rfl⟩;refine ⟨_,rfl,ao.refl _ _,?_⟩;refine rI (v:=ptr y.b) (i:=n) a.nodes (by simp [G]) Um λU o C=>⟨some ⟨y.b,0,none⟩,λu hu=>jj hu o ?_,?_⟩
 ·obtain ⟨g,Ul,rfl⟩:=C;rw [show ar _=_ from a.jq g ⟨0,Ul⟩];simp [lu]
 refine aD (BW c.1 f.node (a.eO _ (by rw [f.ju];simp)) (a.eO _ (by rw [f.tag];simp)) (λUi=>by have:=c.2 _ (.inr (.inr Ui));rw [f.ju] at this;cases this) E) ?_;intro r Ut Z;obtain ⟨χ',d,p',rfl,D,q,K,I,P,L,R,H,Uk⟩:=Af c.1 c.2 (by simp) (λk Uj=>a.jl Uj) a.eO f.ju Z;obtain ⟨aZ,s⟩:=a.Sl x G K I P L q H R;refine ⟨_,_,_,_,_,rfl,?_⟩;have N:(X.bP.set i (b,p'))[i]?=some (b,p'):=GJ x;refine aD (wk (s.ea _ (cj N)).1) ?_;rintro r Uu ⟨rfl,rfl⟩;have Q:X.pure.jb i=(true,{ X.pure with nodes:=X.pure.nodes.set n (p.pure.step y.n).2.1,bP:=if (p.pure.step y.n).1.a6.length=0 then X.pure.bP.eraseIdx i else X.pure.bP.set i (p.pure.step y.n).1 }):=by
  unfold aB.jb;have V:X.pure.bP[i]?=some p.pure:=by simp [bl.pure,x]
  have T:p.pure.node.toNat=n:=by show p.node.toNat=n;omega
  have W:X.pure.nodes[n]?=some y.n:=by simp [bl.pure,G]
  simp only [V,T,W]
 rw [Q];have aj:p'.a6=(p.pure.step y.n).1.a6:=by rw [<-D];rfl
 refine ⟨_,rfl,dJ (λau=>?_) (λau=>?_)⟩
 ·have B:(p.pure.step y.n).1.a6.length=0:=by rw [<-aj];have S:(p'.a6.length:Int)=0:=au;omega
  refine aD (M4 s i (by have:=LU h.fD;omega)) ?_;rintro v Uv ⟨rfl,z⟩;refine ⟨_,rfl,rfl,?_⟩;have j:=dD.trans ((h.refl l).trans aZ) z;have e:(bl.pure { X with nodes:=X.nodes.set n { y with n:=(p.pure.step y.n).2.1 },bP:=X.bP.set i (b,p') }).drop i=(true,{ X.pure with nodes:=X.pure.nodes.set n (p.pure.step y.n).2.1,bP:=X.pure.bP.eraseIdx i }):=by unfold aB.drop;rw [if_neg (by simp [bl.pure];omega)];simp [bl.pure,iD,Ah]
  rw [e] at j;rw [if_pos B];exact j
 ·have B:¬ (p.pure.step y.n).1.a6.length=0:=by rw [<-aj];have S:¬ (p'.a6.length:Int)=0:=au;omega
  rw [if_neg B];refine ⟨rfl,_,_,_,(h.refl l).trans aZ,s,?_,trivial⟩;simp [bl.pure,iD,D]
theorem bl.Sm {X:bl} {y:iz} {c:bU} {l:cV} {n':aH} {p':da} :
  (bl.pure { X with nodes:=X.nodes.set n { y with n:=n' },aU:=X.aU.set i { c with ay:=c.ay.set j { l with p:=p' } } }) =
   {X.pure with nodes:=X.pure.nodes.set n n',aU:=X.pure.aU.set i { c.pure with ay:=c.pure.ay.set j ⟨p'.pure,l.bt⟩ } }:=by
 simp [bl.pure,iD,bU.pure,cV.pure]
end
end Go.Proofs.YtmkljjbioomepaaGreat
