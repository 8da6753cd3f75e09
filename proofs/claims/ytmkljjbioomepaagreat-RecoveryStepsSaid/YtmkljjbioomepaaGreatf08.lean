import Derived.Test.YtmkljjbioomepaaGreatf07
set_option linter.all false
set_option maxHeartbeats 4000000
set_option maxRecDepth 100000
namespace Go.Proofs.YtmkljjbioomepaaGreat
open Go.Proofs.Tryz Go.bd
variable {A:a6}{P:c7}{a:an}{b c cap aJ g i j m n q:Nat}{e t ty:bU}{w w':aj}{xs:au}
section
theorem Lz (e:xs.length=n)(q:bh w a xs)(g:∀ u ∈ xs,single u=true)(r:n<=1000000000)(l:a=none->n=0) :
  a9 71 [.slice a n c] w λv w'=>∃ bS cap,v=.slice bS n cap/\ug w w' 3 1 a bS n cap xs:=by
 refine a' Tryz.func71 ?_;rw[t5];obtain⟨i,j,ax,b,h⟩:=ft (T:=3) (z:=.int .i64 0) (n:=1) (m:=8) (by kernel_rfl);cases a with
 |none=>
  refine fq rfl ⟨none,0,by grind,ao.refl _ _,?_,?_,by simp⟩
  ·rw[l rfl]at e ⊢;rw[hh e];exact aZ.nil _ _ _
  ·rintro k ⟨o,p⟩;cases p
 |some a=>
  refine dm rfl ?_;rintro b1 w1 rfl rfl;obtain⟨bS,d,w',f,s⟩:=y9 (t:=22) (ty:=22) (z:=.int .i64 0) (n:=n) (c:=c) (w:=w) (a:=a) (xs:=xs) Tryz.underlying22 j ax (by rw[b];rfl) (by omega) (by grind) q g (by omega) (by grind)
  grind
theorem Dm {av:bI}{fM fC:Nat}{p:dz}{n:aO}{r:bl}{t N:Tag}(B:dK A w b p)(g:∀ k,p.mut b k->av k=t)(ad:t≠.cF)(z:∀ k,av k≠.cF->k<w.heap.size)(R:∀ k,av k≠.cF->A k)(Z:av fC=N)
  (S:wg A b fM fC p n w r w') :
  ∃ (χ':bI) (d:bR) (p':dz),r=.tuple #[d.val,.bool (p.pure.step n).2.2.isSome]/\p'.pure=(p.pure.step n).1/\d9 w' fM fC (p.pure.step n).2.1/\ao (λk=>av k=t\/av k=N) w w'/\
   (∀ k,k<w.heap.size->χ' k≠.cF->av k≠.cF)/\(∀ k,k<w.heap.size->av k≠t->χ' k=av k)/\(∀ k,χ' k≠.cF->k<w'.heap.size)/\(∀ k,p'.mut b k->χ' k=t)/\dK (gu A av χ' w) w' b p'/\
   ∀ x,(p.pure.step n).2.2=some x->lv (gu A av χ' w) w' d x:=by
 classical
 obtain⟨d,p',rfl,s,l,j,F,f,c,J,K,E⟩:=S;have h:∀ k,p.mut b k->k<w.heap.size:=by
  grind
 have I:∀ k,p'.mut b k->p.mut b k\/w.heap.size<=k:=by
  rintro k (a | a | a)
  ·exact .inl (.inl a)
  ·rcases J with e | e
   ·exact .inl (.inr (.inl (e▸a)))
   grind
  ·rcases K with e | e
   ·exact .inl (.inr (.inr (e▸a)))
   grind
 have q:=f (λk=>(k<w.heap.size/\A k)\/aP p'.dg k\/aP p'.gV k) (λk a=>a) (λk a=>by
  rcases a with a | a | a
  ·exact .inl ⟨h k (.inl a),B.iE k (.inl a)⟩
  ·grind
  grind)
 have H:∀ k,p'.mut b k->k<w'.heap.size:=by
  rintro k (rfl | a | a)
  ·exact q.ak.lt
  ·exact q.own.lt a
  ·exact q.kN.lt a
 let χ':bI:=λk=>if p'.mut b k then t else if(p.pure.step n).2.2.isSome=true/\aP d.Words k then .cF else av k
 have t1:∀ k,p'.mut b k->χ' k=t:=λk a=>bm a
 have t2:∀ k,¬ p'.mut b k->(p.pure.step n).2.2.isSome=true->aP d.Words k->χ' k=.cF:=λk u P Q=>by
  grind
 have t3:∀ k,¬ p'.mut b k->¬ ((p.pure.step n).2.2.isSome=true/\aP d.Words k)->χ' k=av k:=λk u P=>by
  grind
 have U:∀ k,aP d.Words k->k<w.heap.size->av k=t:=λk a X=>by
  rcases F k a with u | u
  ·exact g k (.inr (.inr u))
  ·omega
 have V:∀ k,k<w.heap.size->χ' k≠.cF->av k≠.cF:=by
  grind
 have ab:∀ k,k<w.heap.size->av k≠t->χ' k=av k:=by
  grind
 have W:∀ k,χ' k≠.cF->k<w'.heap.size:=by
  intro k i;by_cases hm:p'.mut b k
  ·grind
  ·by_cases T:(p.pure.step n).2.2.isSome=true/\aP d.Words k
   ·grind
   ·rw[t3 k hm T]at i;exact fQ (z k i) c.size
 have C:dK (gu A av χ' w) w' b p':=by
  refine f _ (λk a=>?_) (λk a=>.inl (by grind));rcases a with a | a
  ·by_cases hm:p'.mut b k
   ·rcases hm with hm | hm | hm
    ·exact .inl ⟨h k (.inl hm),B.iE k (.inl hm)⟩
    ·grind
    grind
   grind
  grind
 refine⟨χ',d,p',rfl,s,l,c.mono λk _ a=>?_,V,ab,W,t1,C,λx ae=>?_⟩
 ·rcases a with a | a | a
  ·exact .inl (g k (.inl a))
  ·exact .inl (g k (.inr (.inr a)))
  grind
 ·obtain⟨d1,d2,d3,d4,d5,d6,d7⟩:=j x ae;refine⟨d1,d2,d3,d4,?_,d5,d6⟩;by_cases L:x.words=[]
  ·grind
  ·refine .inr ?_;rcases d3 with i | ⟨gY,af,y,_⟩
   ·exact b_ (by simpa[us]using i) L
   ·rw [y];have G:aP d.Words gY:=⟨af,y⟩;obtain ⟨cs,D⟩:=E gY G;have Y:¬ p'.mut b gY:=by
     rintro(a | a | ⟨o,ag⟩)
     ·have:=aq.jR D (a▸C.ak);grind
     ·obtain⟨O,M⟩:=gj C.own a
      grind[aq.jR]
     grind
    intro i;rcases i with i | ⟨u,_,Q⟩
    ·grind
    grind
theorem b4.Xv {av:bI}{X:bt}(h:b4 A av w aJ X){f:Nat}{c:b9}{d:bR}{x:cW}(n:X.aY[i]?=some c)(r:c.gY=some f)(H:q<c.raw.length)(B:lv A w d x) :
  ∃ A',Next A A' av av w (cv w ⟨f,0+q*2,none⟩ 0 d.cells)/\b4 A' av (cv w ⟨f,0+q*2,none⟩ 0 d.cells) aJ {X with aY:=X.aY.set i {c with raw:=c.raw.set q d,batch:=c.batch.set q x} }:=by
 have a:=h.a3 i c n;obtain⟨u,I⟩:=a.batch f r;rw[h_];have s:ao (λk=>av k=.batch i) w (cv w ⟨f,q*2,none⟩ 0 d.cells):=(hD w f (q*2) 0 d.cells).mono λk _ e=>by grind
 have p:=u.cv (o:=q*2) (i:=0) (vs:=d.cells);rw[m1,CL (zc _) (by grind[fL]) rfl,MI]at p;obtain⟨m,aS⟩:=h.move (χ':=av) (T:=λt=>t=.batch i) s (by simp) (λ_ _ h=>h) (λ_ _ _ _=>rfl);have f1:=aZ.cY m a.own a.tag (by simp) (by simp);have E:kI (gu A av av w) av (cv w ⟨f,q*2,none⟩ 0 d.cells) i {c with raw:=c.raw.set q d,batch:=c.batch.set q x}:=by
  refine⟨f1.1,f1.2,λj l C=>(a.lane j l C).cY m (by simp) (by simp),λG=>?_,λb z=>?_,?_,λk v y ar g=>?_⟩
  ·grind
  ·grind
  ·simp[a.ds.1]
  ·rw[kg]at ar g;by_cases he:q=k
   ·subst he;rw[bm rfl,bm (by omega)]at ar;rw[bm rfl,bm (by grind)]at g;simp only[hA]at ar g;subst ar;subst g;exact B.aC m.sT m.old
   ·rw[aW he]at ar g;exact(a.ds.2 k v y ar g).aC m.sT m.old
 obtain⟨D,F⟩:=h.rq (χ':=av) n (s.mono λk _ e=>.inr (by rw[e];rfl)) (λ_ _ h=>h) (λ_ _ _ _=>rfl) (λk n=>fQ (h.jK n) s.size) (by have e:(fY X.aY).set i (b9.cells {c with raw:=c.raw.set q d,batch:=c.batch.set q x})=fY X.aY:=mF (by rw[vL n];simp[b9.cells]);rw[e];exact(aq.cY m h.cls h.fj (by simp) (by simp)).1) h.fj E
 grind
theorem b4.Xy {av:bI}{X:bt}(h:b4 A av w aJ X){c:b9}(b:X.aY[i]?=some c)(n:Nat) :
  ∃ A',Next A A' av av w (w.setCell ⟨X.a0,0+i*7+4,none⟩ (.int .i64 n))/\b4 A' av (w.setCell ⟨X.a0,0+i*7+4,none⟩ (.int .i64 n)) aJ {X with aY:=X.aY.set i {c with waiting:=n} }:=by
 have d:ao (λk=>av k=.aY) w (w.setCell ⟨X.a0,0+i*7+4,none⟩ (.int .i64 n)):=(eY w X.a0 _ _).mono λk _ e=>by rw[e];exact h.fj
 obtain⟨m,aS⟩:=h.move (χ':=av) (T:=λt=>t=.aY) d (by simp) (λ_ _ h=>h) (λ_ _ _ _=>rfl);have a:=(h.a3 i c b).cY m (λt f e=>by rw[e]at f;exact f);obtain⟨l,_⟩:=lg (k:=4) (c':={c with waiting:=n}) h.cls b (by omega) (v:=.int .i64 n) (by simp[b9.cells]);obtain⟨g,j⟩:=h.rq (χ':=av) (c':={c with waiting:=n}) b (d.mono λk _ e=>.inl e) (λ_ _ h=>h) (λ_ _ _ _=>rfl) (λk b=>fQ (h.jK b) d.size) (by grind[tk]) h.fj
  ⟨a.own,a.tag,a.lane,a.none,a.batch,a.ds⟩
 grind
def bB.u3 (C:bB)(q:Nat)(p:db)(cp:cV):Option cW->bB
 |none=>C
 |some x=>{C with aG:=C.aG.set q ⟨p,cp.tail⟩,batch:=C.batch.map λds=>ds.set (cp.headD 0) x,waiting:=C.waiting-1}
theorem Dn {R:bg}{bY:a6}{a8:bI}{D:aj}{M:bt}{az:Nat}{b:b9}{A:df}{d:bR}(h:b4 bY a8 D aJ M)(ca:M.aY[i]?=some b)(aW:b.aG[q]?=some A)(cX:b.la=some ⟨g,0,none⟩)
  (br:aq D az d.cells iT) (bX:Option cW) (cS:∀ x,bX=some x->lv bY D d x) (cj:bX.isSome=true->∃ bb J cp,A.bZ=J::cp/\J<b.raw.length/\b.gY=some bb/\0<b.waiting) (hlen:A.bZ.length<=1024) (dk:b.waiting<=1024)
  (cH:∀ w' A' χ' cx,Next bY A' a8 χ' D w'->b4 A' χ' w' aJ cx->cx.pure=M.pure.eW i (b.pure.u3 q A.p.pure A.bZ bX)->R (.bool true) w') :
  (bif bX.isSome then(∀ E,E=D.drew->∃ N:aK,N E/\fo (some ⟨M.a0,0+i*7,none⟩) λt=>∃ (batch:an) (ri:Nat) (H:Nat),(∀ u,N u->u.cell? ⟨t.block,t.off+3,none⟩=some (.slice batch ri H))/\∃ (bZ:an) (n:Nat) (C:Nat),(∀ u,N u->u.cell? ⟨g,(0+q*2)+1,none⟩=some (.slice bZ n C))/\bk bZ n 0 1 λa9=>∃ (cO:Int),(∀ u,N u->u.cell? a9=some (.int .i64 cO))/\∃ (Code:Int) (Words:an) (l:Nat) (j:Nat),(∀ u,N u->b6 u ⟨az,0,none⟩ 0 [(.int .i64 Code),(.slice Words l j)])/\bk batch ri cO 2 λa'=>dT E a' 0 [(.int .i64 Code),(.slice Words l j)]/\∀ F,F=cv E a' 0 [(.int .i64 Code),(.slice Words l j)]->∃ (B:an) (f:Nat) (c:Nat),F.cell? ⟨g,(0+q*2)+1,none⟩=some (.slice B f c)/\g7 B f c 1 (f:Nat) (c:Nat) 1 λcu dn dm=>Calls prog 71 #[(.slice cu dn dm)] F λe G=>∃ (L:an) (s:Nat) (o:Nat),e=.returned (.slice L s o)/\(∃ u,G.cell? ⟨g,(0+q*2)+1,none⟩=some u)/\G.frozen? ⟨g,(0+q*2)+1,none⟩=false/\∀ y,y=G.setCell ⟨g,(0+q*2)+1,none⟩ (.slice L s o)->fo (some ⟨M.a0,0+i*7,none⟩) λw=>∃ (waiting:Int),y.cell? ⟨w.block,w.off+4,none⟩=some (.int .i64 waiting)/\fo (some ⟨M.a0,0+i*7,none⟩) λa=>(∃ u,y.cell? ⟨a.block,a.off+4,none⟩=some u)/\y.frozen? ⟨a.block,a.off+4,none⟩=false/\∀ ah,ah=y.setCell ⟨a.block,a.off+4,none⟩ (.int .i64 (IntKind.i64.wrap (waiting-1)))->R (.bool true) ah)else(R (.bool true) D)):=by
 cases bJ:bX with
 |none=>
  refine cH D bY a8 M (h.refl (ao.refl _ _)) h ?_;rw[bJ];show M.pure=M.pure.eW i b.pure
  grind[mF,bt.pure,aH.eW,Int.toNat_natCast]
 |some x=>
  obtain⟨bb,J,cp,ck,ch,bo,dh⟩:=cj (by grind);have cb:=cS x bJ;intro E aL;have K:Go.bd.ai D E:=by rw[aL];exact cC _
  clear aL;have aR:=h.new K;have ab:=ai.ak K br;have aV:=aR.a3 i b ca;have cf:=aV.lane q A aW;obtain⟨cy,cY,c1,⟨cP,cZ⟩,_,cd⟩:=aZ.row aV.own (lw b.aG) (by omega) (kw aW);have U:cy=g:=by grind
  subst U;have a4:(is (A.bZ.map Int.ofNat))[0]?=some (.int .i64 J):=by rw[ck];rfl
  refine⟨λz=>Go.bd.ai E z,ao.refl _ _,some ⟨bb,0,none⟩,b.raw.length,b.raw.length,λz ax=>(aR.new ax).ih (k:=3) ca (by grind[b9.cells]),A.kD,A.bZ.length,A.ll,λz ax=>jG ax (cd 1 _ rfl) id,?_⟩;refine rP (i:=0) cf.bZ a4 rfl λa9 aT cQ=>⟨J,λz ax=>jG ax aT id,d.Code,d.Words,d.dd,d.c0,λz ax=>tw (ai.ak ax ab),dM (by omega) (by omega) ?_⟩
  rw[g9];obtain⟨dp,bW,Z⟩:=aR.Xv (q:=J) ca bo ch (cb.aC (ao.b7 K) λ_ _ h=>h);refine⟨fU (vs:=d.cells) (aV.batch bb bo).1 ?_ (bR.single d),?_⟩
  ·rw[lT (zc _)]
   grind[fL,bR.cells]
  intro F aM;have X:F=cv E ⟨bb,0+J*2,none⟩ 0 d.cells:=aM;rw[<-X]at bW Z;clear X;clear aM;have P:(M.aY.set i {b with raw:=b.raw.set J d,batch:=b.batch.set J x})[i]?=some {b with raw:=b.raw.set J d,batch:=b.batch.set J x}:=by grind
  have S:=Z.a3 i _ P;have a1:=S.lane q A aW;obtain⟨cA,cK,_,⟨cD,bx⟩,_,bG⟩:=aZ.row S.own (lw b.aG) (by omega) (kw aW);have U:cA=cy:=by grind
  subst U;refine⟨A.kD,A.bZ.length,A.ll,bG 1 _ rfl,?_⟩;have W:=a1.bZ;rcases W.2 with⟨_,dt,_⟩ | ⟨dy,cN,bL,c6,bN,c_,c9,da⟩
  ·grind
  rw[bL];have cL:0<A.bZ.length:=by grind
  refine jq (by omega) (by omega) (by omega) (by omega) bN ?_;intro cu cm;have cl:bh F cu (is (cp.map Int.ofNat)):=by
   by_cases bO:cp=[]
   ·rw[bO];exact .inl rfl
   ·rcases cm with e | ⟨e,_⟩
    ·rw[e];have:=W.rd;rw[bL]at this;have:=this.drop 1
     grind[is]
    grind
  have bQ:(Int.toNat (A.bZ.length:Int))-Int.toNat 1=cp.length:=by grind
  rw[bQ];refine aE (Lz (by simp[is]) cl (M1 _) (by grind) (λe=>by grind)) ?_;rintro r G ⟨a7,rc,rfl,aI,af,T,_⟩;have b_:=Z.new aI;have I:=b_.a3 i _ P;obtain⟨b5,bs,_,⟨cG,bD⟩,_,bH⟩:=aZ.row I.own (lw b.aG) (by omega) (kw aW);have U:b5=cA:=by grind
  subst U;refine⟨_,_,_,rfl,⟨_,bH 1 _ rfl⟩,bD.frozen,?_⟩;intro y Y;have c5:a8 b5=.aG i:=I.tag b5 ⟨0,bs⟩;have aB:ao (λz=>z=b5) G y:=by rw[Y];exact eY _ _ _ _
  have cM:∀ z,aP a7 z->a8 z=.bZ i q\/G.heap.size<=z\/(F.heap.size<=z/\z<G.heap.size):=λz ax=>.inr (by grind)
  have ae:aZ y lO 2 b.la b.aG.length b.lc ((g4 b.aG).set q (df.cells {A with bZ:=cp,kD:=a7,ll:=rc})).flatten:=by
   have bK:=I.own;have V:aZ G lO 2 b.la b.aG.length b.lc (g4 b.aG).flatten:=bK;rw[cX]at V ⊢;rw[Y];have:=aZ.setCell V (i:=q*2+1) (by grind) (.slice a7 cp.length rc);rw[Ab (lw _) _ (kw aW) (by omega)]at this
   grind[df.cells]
  have ag:aZ y mo 1 a7 cp.length rc (is (cp.map Int.ofNat)):=af.aC aB λz ax e=>by have dv:=T z ax;have dw:=bx.lt;omega
  clear Y;have ad:ao (λz=>rv i q (a8 z)) F y:=(ao.b7 aI).trans aB λz _ e=>.inr (by grind)
  obtain⟨dq,dz,cq,O⟩:=Z.IM P aW ad (λz ax=>.inr (T z ax)) ag ae;rw[kq]at O;have Q:(M.aY.set i {b with raw:=b.raw.set J d,batch:=b.batch.set J x,aG:=b.aG.set q {A with bZ:=cp,kD:=a7,ll:=rc} })[i]?=some {b with raw:=b.raw.set J d,batch:=b.batch.set J x,aG:=b.aG.set q {A with bZ:=cp,kD:=a7,ll:=rc} }:=by grind
  refine⟨b.waiting,O.ih (k:=4) Q rfl,⟨_,O.ih (k:=4) Q rfl⟩,O.cls.frozen,?_⟩;rw[show IntKind.i64.wrap ((b.waiting:Int)-1)=((b.waiting-1:Nat):Int) by rw[bq (by omega) (by omega)];omega];obtain⟨dr,cr,bm⟩:=O.Xy Q (b.waiting-1);intro ah bV;rw[kq]at bm;have a5:ah=y.setCell ⟨M.a0,0+i*7+4,none⟩ (.int .i64 (b.waiting-1:Nat)):=bV;rw[a5];refine cH _ _ _ _ ((((h.refl K).trans bW).trans cq).trans cr) bm ?_
  grind[bt.y0,b9.pure,bB.u3,List.map_set,df.pure]
end
section
theorem aZ.Ty {i:TypeInfo}(z:P.underlying t=some (.slice e))(y:P.info? e=some i)(I:0<i.size)
  (q:aZ w e i.size (some ⟨g,0,none⟩) n cap xs) {s:aw} {news:au} (p:news.length=m*i.size) (H:bh w (some s) news) (B:∀ u ∈ news,single u=true) (a:n+m<=cap) :
  ∃ w',(Builtin.append_ #[t,t] ty #[.slice (some ⟨g,0,none⟩) n cap,.slice (some s) m c]).run P w=.ok (.slice (some ⟨g,0,none⟩) (n+m) cap) w'/\aZ w' e i.size (some ⟨g,0,none⟩) (n+m) cap (xs++news)/\ao (λk=>k=g) w w':=by
 have hlen:(xs++news).length=(n+m)*i.size:=by rw[hi,q.1,p,tD]
 by_cases hm:m=0
 ·subst hm;have D:news=[]:=hh (by grind);subst D;refine⟨w,?_,by grind,ao.refl _ _⟩;have hle:=q.le;simp[Builtin.append_,run_underlying z,sizeOf,typeInfo,y,Builtin.lenOf,hle,Builtin.firstCells,loadCells,loadCellsFrom,storeCells]
 ·have F:news≠[]:=by
   grind[Nat.mul_eq_zero]
  rcases H with K | ⟨sb,so,he,h⟩
  ·grind
  simp at he;subst he;have b:∀ j u,news[j]?=some u->w.cell? ((⟨sb,so,none⟩:aw).add j)=some u:=λj u hu=>by rw[lq];grind
  have f:∀ u ∈ news,u.oneCell'=true:=λu hu=>Jx (B u hu)
  rcases q.2 with⟨A,_⟩ | ⟨J,cur,he,x,E,l,o,r⟩
  ·cases A
  simp at he;subst he;have d:n*i.size+news.length<=cur.toArray.size:=by rw[p,List.size_toArray,o,<-tD];exact rB _ a
  have G:=run_append_room (P:=P) w t ty e i z y g n cap cur.toArray x ⟨sb,so,none⟩ m c news p b f a d;refine⟨_,G,⟨hlen,.inr ⟨g,_,rfl,setRow_heap w g cur.toArray _ e _ x,a,l,?_,?_⟩⟩,⟨rfl,rfl,rfl,by simp,λk _ C=>setRow_other w g k _ (λe=>C e)⟩⟩
  ·grind
  grind
theorem Mk {i:TypeInfo}{z:bl}(h:P.underlying t=some (.slice e))(g:P.info? e=some i)(ax:i.zero=some z)(d:z.cells=#[z]){o:Nat}(hw:dT w ⟨b,o,none⟩ 0 [z]) :
  (Builtin.clear_ #[t] ty #[.slice (some ⟨b,o,none⟩) 1 c]).run P w=.ok (.tuple #[]) (cv w ⟨b,o,none⟩ 0 [z]):=by
 have a:=td (P:=P) hw;have f:(Builtin.zeroCells z.cells 1).toList=[z]:=by rw[d];simp[Builtin.zeroCells]
 simp[Builtin.clear_,run_underlying h,zeroValue,typeInfo,g,ax,f,a]
theorem aZ.X0 {e:Nat}(h:aZ w e 1 a n cap xs)(k:a≠none)(hm:m<=n):aZ w e 1 a m cap (xs.take m):=by
 rcases h.2 with⟨j,_⟩ | ⟨g,cur,he,f,i,b,c,d⟩
 ·grind
 ·refine⟨by grind,.inr ⟨g,cur,he,f,by omega,b,c,?_⟩⟩
  grind
theorem OI (h:aZ w ot 1 a n cap xs)(aI:i<n)(Z:∀ u ∈ xs,single u=true) :
  a9 89 [.slice a n cap,.int .i64 i,.int .i64 (i+1:Nat)] w λv w'=>v=.slice a (n-1) cap/\aZ w' ot 1 a (n-1) cap (xs.eraseIdx i)/\ao (aP a) w w':=by
 refine a' Tryz.func89 ?_;rw[TG];have ah:=h.1;rcases h.2 with⟨_,R,_⟩ | ⟨g,cur,rfl,aE,l,E,ae,K⟩
 ·omega
 have S:cap<=9223372036854775807:=E;refine jq (by omega) (by omega) (by omega) (by omega) l ?_;intro aL _;refine dJ (λhe=>by omega) (λ_=>?_)
 intro w1 B;have j:ai w w1:=by rw[B];exact cC _
 clear B;refine jq (by omega) (by omega) (by omega) (by omega) l ?_;intro M V;refine jq (by omega) (by omega) (by omega) (by omega) l ?_;intro N C;have X:M=some ⟨g,0,none⟩:=by grind
 subst X;simp only[g9,Int.toNat_zero,Nat.sub_zero];obtain⟨s2,rfl⟩:∃ s,N=some s:=by grind
 obtain⟨aq,A,ax,y,ad⟩:=ft (T:=103) (z:=.pointer none) (n:=1) (m:=8) (by kernel_rfl);have I:aZ w1 ot aq.size (some ⟨g,0,none⟩) i cap (xs.take i):=by rw[y];exact aZ.X0 (h.new j) (by simp) (by omega)
 have J:bh w1 (some s2) (xs.drop (i+1)):=by
  by_cases af:xs.drop (i+1)=[]
  ·rw[af];exact .inl rfl
  ·rcases C with e | ⟨e,_⟩
   ·rw[e];have:=(h.new j).rd.drop (i+1)
    grind
   grind[List.drop_eq_nil_of_le]
 obtain⟨W,f,b,G⟩:=aZ.Ty (P:=prog) (t:=106) (ty:=106) Tryz.underlying106 A (by omega) I (s:=s2) (m:=n-(i+1)) (c:=cap-(i+1)) (news:=xs.drop (i+1)) (by grind) J
  (λu hu=>Z u (qb hu)) (by omega)
 rw[y]at b;have F:i+(n-(i+1))=n-1:=by omega
 rw[F]at f b;refine⟨_,_,_,W,f,?_⟩;refine jq (by omega) (by omega) (by omega) (by omega) (by omega) ?_;intro O D;have Y:O=some ⟨g,0+(n-1)*1,none⟩:=by
  rcases D with e | ⟨e,_⟩
  ·simp_all
  ·omega
 subst Y;have H:(Int.toNat (n:Int))-Int.toNat ((n-1:Nat):Int)=1:=by omega
 rw[H];rcases b.2 with⟨R,_⟩ | ⟨aB,Q,q,r,x,p,U,d⟩
 ·cases R
 simp at q;subst q;have L:dT W ⟨g,0+(n-1)*1,none⟩ 0 [.pointer none]:=fU r (by grind) (by simp[single]);refine⟨_,_,Mk (P:=prog) Tryz.underlying106 A ax rfl L,rfl,?_,?_⟩
 ·have ab:=r.cv (o:=0+(n-1)*1) (i:=0) (vs:=[.pointer none]);have ag:xs.take i++xs.drop (i+1)=xs.eraseIdx i:=(List.eraseIdx_eq_take_drop_succ ..).symm;rw[ag]at b d;refine⟨b.1,.inr ⟨g,_,rfl,ab,x,p,by rw[Jw];grind,?_⟩⟩;rw[pS (by grind)]
  grind
 ·exact((ao.b7 j).trans G λk _ e=>⟨0,by rw[e]⟩).trans (hD _ _ _ _ _) λk _ e=>⟨0,by rw[e]⟩
def lH (b n:Nat)(t:Tag):Prop:=t=.hI b\/t=.word n
theorem Mr {α:Type}{l:List α}(h:l.Nodup){x:α}(a:l[i]?=some x)(b:l[j]?=some x):i=j:=by
 grind[List.getElem?_eq_some_iff,List.pairwise_iff_getElem,Nat.lt_trichotomy]
theorem zg {α β:Type}(f:α->β):∀ (l:List α) (i:Nat),(l.map f).eraseIdx i=(l.eraseIdx i).map f
 | [],_=>rfl
 | _::_,0=>rfl
 |x::l,i+1=>by simp[zg f l i]
theorem b4.Xw {av χ':bI}{X:bt}(h:b4 A av w aJ X){p:dz}{y:d'}(E:X.b2[i]?=some (b,p))(D:X.nodes[n]?=some y)
  (c:ao (λk=>lH b n (av k)) w w') (B:∀ k,k<w.heap.size->χ' k≠.cF->av k≠.cF) (l:∀ k,k<w.heap.size->av k≠.hI b->χ' k=av k) (r:∀ k,χ' k≠.cF->k<w'.heap.size)
  {n':aO} (j:d9 w' y.b y.aQ n') {p':dz} (F:dK (gu A av χ' w) w' b p') (G:∀ k,p'.mut b k->χ' k=.hI b) :
  Next A (gu A av χ' w) av χ' w w'/\b4 (gu A av χ' w) χ' w' aJ {X with nodes:=X.nodes.set n {y with n:=n'},b2:=X.b2.set i (b,p')}:=by
 obtain⟨m,aS⟩:=h.move (T:=lH b n) c (by simp[lH]) B (λk g j _=>l k g λe=>j (.inl e));have f1:=aq.cY m h.cn h.gO (by simp[lH]) (by simp);have f2:=aZ.cY m h.nodes h.jM (by simp[lH]) (by simp);have f3:=aZ.cY m h.f_ h.j6 (by simp[lH]) (by simp);have f4:=aq.cY m h.cls h.fj (by simp[lH]) (by simp);have a:=h.node n y D;have s:(X.b2.set i (b,p')).map Prod.fst=X.b2.map Prod.fst:=by grind[List.map_set,mF]
 refine⟨aS,m.mv,λk f=>?_,?_,f1.2,?_,f2.2,?_,f4.1,f4.2,λq z ax=>(h.a3 q z ax).cY m (λt o u=>?_),?_,f3.2,λx C=>?_,?_⟩
 ·rcases f with f | f
  ·grind
  ·exact fQ f.1 c.size
 ·grind[bt.cells]
 ·grind[ptr,List.map_set,mF]
 ·intro q z ax;simp only[kg]at ax;split at ax
  ·rename_i he;subst he;split at ax
   ·simp only[hA]at ax;subst ax;exact⟨j,by rw[l _ a.node.node.lt (by rw[a.tag];simp)];exact a.tag,by rw[l _ a.node.words.lt (by rw[a.jS];simp)];exact a.jS⟩
   grind
  ·rename_i he;exact(h.node q z ax).cY m (by simp[lH]) (by grind[lH])
 ·rcases u with e | e<;>(rw[e]at o;cases o)
 ·grind[ptr,List.map_set,mF]
 ·obtain⟨k,c⟩:=eP.1 C;simp only[kg]at c;split at c
  ·grind
  ·rename_i he;have d:=h.eC x (cu c);refine dK.cY m d.1 d.2 ?_ (by simp);rintro(e | e)
   ·simp at e;exact he (Mr (x:=b) h.nodup (by grind) (by grind))
   grind
 ·show((X.b2.set i (b,p')).map Prod.fst).Nodup;rw[s];exact h.nodup
theorem b4.TD {av:bI}{X:bt}(h:b4 A av w aJ X)(g:i<X.b2.length)(c:ao (λk=>av k=.f_\/av k=.cn) w w')
  (o:aZ w' ot 1 X.f9 (X.b2.length-1) X.jN ((X.b2.map λp=>ptr p.1).eraseIdx i)) (l:aq w' aJ (X.cells.set 3 (.slice X.f9 (X.b2.length-1) X.jN)) lN) :
  ∃ A',Next A A' av av w w'/\b4 A' av w' aJ {X with b2:=X.b2.eraseIdx i}:=by
 obtain⟨m,aS⟩:=h.move (T:=λt=>t=.f_\/t=.cn) (χ':=av) c (by simp) (λ_ _ h=>h) (λ_ _ _ _=>rfl);have n:(X.b2.eraseIdx i).length=X.b2.length-1:=List.length_eraseIdx_of_lt g;refine⟨_,aS,m.mv,λk a=>?_,?_,h.gO,(aZ.cY m h.nodes h.jM (by simp) (by simp)).1,h.jM,λq z ax=>(h.node q z ax).cY m (by simp) (by simp),(aq.cY m h.cls h.fj (by simp) (by simp)).1,h.fj,λq z ax=>(h.a3 q z ax).cY m (λt d f=>?_),?_,h.j6,λx j=>?_,?_⟩
 ·rcases a with a | a
  ·exact fQ (h.jK a) c.size
  ·exact fQ a.1 c.size
 ·grind[bt.cells]
 ·rcases f with e | e<;>(rw[e]at d;cases d)
 ·show aZ w' ot 1 X.f9 (X.b2.eraseIdx i).length X.jN ((X.b2.eraseIdx i).map λp=>ptr p.1)
  grind[zg]
 ·have b:=h.eC x (zA j);exact dK.cY m b.1 b.2 (by simp) (by simp)
 ·show((X.b2.eraseIdx i).map Prod.fst).Nodup;rw[<-zg];exact(List.eraseIdx_sublist ..).nodup h.nodup
theorem Ml (l:List (Nat×dz)):∀ u ∈ l.map (λp=>ptr p.1),single u=true:=by intro u hu;simp only[dD]at hu;obtain⟨p,_,rfl⟩:=hu;rfl
theorem RY {av:bI}{X:bt}(h:b4 A av w aJ X)(c:Int)(u:c<9223372036854775807):a9 62 [ptr aJ,.int .i64 c] w λv w'=>
  v=.bool (X.pure.drop c).1/\dV A av w aJ (X.pure.drop c).2 w' λ_=>True:=by
 refine a' Tryz.func62 ?_;rw[ptr,ro];have t:X.pure.b2.length=X.b2.length:=by simp[bt.pure]
 refine a5 (λq=>?_) (λq=>⟨_,_,_,h.cn.cell rfl,a5 (λr=>?_) (λr=>?_)⟩)
 ·have f:X.pure.drop c=(false,X.pure):=by unfold aH.drop;grind
  rw[f];exact⟨rfl,dV.same h (ao.refl _ _) trivial⟩
 ·have f:X.pure.drop c=(false,X.pure):=by unfold aH.drop;grind
  rw[f];exact⟨rfl,dV.same h (ao.refl _ _) trivial⟩
 ·have f:X.pure.drop c=(true,{X.pure with b2:=X.pure.b2.eraseIdx c.toNat}):=by unfold aH.drop;grind
  rw[f];obtain⟨i,rfl⟩:∃ i:Nat,c=i:=⟨c.toNat,by omega⟩;refine⟨_,_,_,h.cn.cell rfl,?_⟩;rw[show IntKind.i64.wrap ((i:Int)+1)=((i+1:Nat):Int) by rw[bq (by omega) (by omega)];rfl];refine aE (OI h.f_ (by omega) (Ml _)) ?_;rintro v w1 ⟨rfl,o,n⟩;have a:ao (λk=>av k=.f_) w w1:=n.mono λk _ j=>h.j6 k j
  have b:=a.ak h.cn (by rw[h.gO];simp);refine⟨_,_,_,rfl,⟨_,b.cell (i:=3) rfl⟩,b.frozen,?_⟩;intro p d;have g:ao (λk=>k=aJ) w1 p:=by rw[d];exact eY _ _ _ _
  have l:aq p aJ (X.cells.set 3 (.slice X.f9 (X.b2.length-1) X.jN)) lN:=by rw[d];exact b.setCell _
  clear d;obtain⟨A',aS,s⟩:=h.TD (i:=i) (by omega) ((a.mono λk _ e=>.inl e).trans g λk _ e=>.inr (by rw[e];exact h.gO)) (o.aC g λk j e=>by have:=h.j6 k j;rw[e,h.gO]at this;grind) l;refine⟨rfl,_,_,_,aS,s,?_,trivial⟩;simp[bt.pure,zg]
theorem dV.trans {A a:a6}{av c:bI}{w w1 b:aj}{aJ:Nat}{F:aH}{K:(a6)->Prop}(n:Next A a av c w w1)(h:dV a c w1 aJ F b K):dV A av w aJ F b K:=by obtain⟨d,j,e,fB,f,i,g⟩:=h;exact⟨d,j,e,n.trans fB,f,i,g⟩
theorem Qk {e sz:Nat}(h:aZ w e sz a n cap xs):n<=9223372036854775807:=by
 rcases h.2 with⟨_,c,_⟩ | ⟨g,cur,_,_,d,b,_⟩
 ·omega
 ·have:cap<=9223372036854775807:=b;omega
theorem KX {α:Type}{l:List α}{x y:α}(h:l[i]?=some x):(l.set i y)[i]?=some y:=by grind
theorem Ms {α:Type}:∀ (l:List α) (i:Nat) (x:α),(l.set i x).eraseIdx i=l.eraseIdx i
 | [],_,_=>rfl
 | _::_,0,_=>rfl
 |y::l,i+1,x=>by grind
theorem KY {av:bI}{X:bt}(h:b4 A av w aJ X)(K:n_ X.pure)(i:Nat):a9 69 [ptr aJ,.int .i64 i] w λv w'=>
  v=.bool (X.pure.iu i).1/\dV A av w aJ (X.pure.iu i).2 w' λ_=>True:=by
 refine a' Tryz.func69 ?_;rw[ptr,Xc];have ag:X.pure.b2.length=X.b2.length:=by simp[bt.pure]
 refine⟨_,_,_,h.cn.cell rfl,a5 (λR=>?_) (λR=>?_)⟩
 ·have V:X.pure.iu i=(false,X.pure):=by
   grind[aH.iu,List.getElem?_eq_none]
  rw[V];exact⟨rfl,dV.same h (ao.refl _ _) trivial⟩
 have Z:i<X.b2.length:=by omega
 obtain⟨b,p,D⟩:∃ b p,X.b2[i]?=some (b,p):=⟨X.b2[i].1,X.b2[i].2,by grind⟩;have ah:=h.eC _ (cu D);obtain⟨ad,ae,z⟩:=K.eC p.pure (cu (i:=i) (by grind[bt.pure]));obtain⟨n,ab⟩:∃ n:Nat,p.node=n:=⟨p.node.toNat,by have:p.pure.node=p.node:=rfl;omega⟩;have af:n<X.nodes.length:=by
  have e:p.pure.node=p.node:=rfl
  grind[bt.pure]
 obtain⟨y,P⟩:∃ y,X.nodes[n]?=some y:=⟨X.nodes[n],by grind⟩;have aq:=h.node n y P;refine⟨_,_,_,h.cn.cell rfl,?_⟩;refine rP (v:=ptr b) (i:=i) h.f_ (by grind) rfl λaB s _=>⟨some ⟨b,0,none⟩,s,?_⟩
 intro w1 B;have j:ai w w1:=by rw[B];exact cC _
 clear B;have a:=h.new j;have c:=a.eC _ (cu D);have f:=a.node n y P;refine⟨λu=>ao (λk=>lH b n (av k)) w1 u,ao.refl _ _,_,_,_,λu hu=>(hu.ak a.cn (by rw[a.gO];simp[lH])).cell (i:=1) rfl,?_⟩;refine aE (E6 c.1) ?_;rintro r aM ⟨rfl,rfl⟩;refine⟨_,rfl,ao.refl _ _,?_⟩;refine rP (v:=ptr y.b) (i:=n) a.nodes (by grind) ab λQ l x=>⟨some ⟨y.b,0,none⟩,λu hu=>jG hu l ?_,?_⟩
 ·obtain⟨g,Y,rfl⟩:=x;rw[show av _=_ from a.jM g ⟨0,Y⟩];simp[lH]
 refine aE (E7 c.1 f.node (a.fb _ (by rw[f.jS];simp)) (a.fb _ (by rw[f.tag];simp)) (λT=>by have:=c.2 _ (.inr (.inr T));rw[f.jS]at this;grind) z) ?_;intro r aP S;obtain⟨χ',d,p',rfl,L,o,H,G,M,I,O,F,W⟩:=Dm c.1 c.2 (by simp) (λk U=>a.jK U) a.fb f.jS S;obtain⟨aS,q⟩:=a.Xw D P H G M I o F O;refine⟨_,_,_,_,_,rfl,?_⟩;have J:(X.b2.set i (b,p'))[i]?=some (b,p'):=KX D;refine aE (zd (q.eC _ (cu J)).1) ?_;rintro r aR ⟨rfl,rfl⟩;have N:X.pure.iu i=(true,{X.pure with nodes:=X.pure.nodes.set n (p.pure.step y.n).2.1,b2:=if(p.pure.step y.n).1.bj.length=0 then X.pure.b2.eraseIdx i else X.pure.b2.set i (p.pure.step y.n).1}):=by
  unfold aH.iu;have aI:X.pure.b2[i]?=some p.pure:=by grind[bt.pure]
  have aL:p.pure.node.toNat=n:=by show p.node.toNat=n;omega
  grind[bt.pure]
 rw[N];have ar:p'.bj=(p.pure.step y.n).1.bj:=by rw[<-L];rfl
 refine⟨_,rfl,dJ (λax=>?_) (λax=>?_)⟩
 ·have C:(p.pure.step y.n).1.bj.length=0:=by grind
  refine aE (RY q i (by have:=Qk h.f_;omega)) ?_;rintro v aT ⟨rfl,t⟩;refine⟨_,rfl,rfl,?_⟩;have E:=dV.trans ((h.refl j).trans aS) t;have e:(bt.pure {X with nodes:=X.nodes.set n {y with n:=(p.pure.step y.n).2.1},b2:=X.b2.set i (b,p')}).drop i=(true,{X.pure with nodes:=X.pure.nodes.set n (p.pure.step y.n).2.1,b2:=X.pure.b2.eraseIdx i}):=by unfold aH.drop;rw[aW (by grind[bt.pure])];simp[bt.pure,m4,Ms]
  grind
 ·have C:¬ (p.pure.step y.n).1.bj.length=0:=by grind
  rw[aW C];refine⟨rfl,_,_,_,(h.refl j).trans aS,q,?_,trivial⟩
  grind[bt.pure,List.map_set]
theorem bt.Xx {X:bt}{y:d'}{c:b9}{l:df}{n':aO}{p':dz} :
  (bt.pure {X with nodes:=X.nodes.set n {y with n:=n'},aY:=X.aY.set i {c with aG:=c.aG.set j {l with p:=p'} } }) =
   {X.pure with nodes:=X.pure.nodes.set n n',aY:=X.pure.aY.set i {c.pure with aG:=c.pure.aG.set j ⟨p'.pure,l.bZ⟩} }:=by
 simp[bt.pure,m4,b9.pure,df.pure]
end
section
abbrev Bh:bU:=89
def ii.cells (x:ii):au:=[.int .i64 x.eC,.int .i64 x.a3,.int .i64 x.node]
def ii.val (x:ii):bl:=.agg x.cells.toArray
theorem OJ (C:bB)(j:Nat)(l:cL)(p:db)(a:Option cW)(b:j<C.aG.length) :
  ({C with aG:=C.aG.set j ⟨p,l.bZ⟩}:bB).u3 j p l.bZ a=C.comes j l p a:=by
 cases a with
 |none=>rfl
 |some x=>simp[bB.u3,bB.comes]
theorem Jl:∀ {l:cV}{x:Nat},x ∈ l->x<=l.sum
 |y::l,x,h=>by
  rw[qe];rcases gw.1 h with rfl | h
  ·omega
  ·have:=Jl h;omega
theorem b4.Cd {av:bI}{X:bt}(h:b4 A av w aJ X)(b:ai w w'):b4 (λk=>A k\/(w.heap.size<=k/\k<w'.heap.size)) av w' aJ X:=by
 have m:kW (λ_=>False) A (λk=>A k\/(w.heap.size<=k/\k<w'.heap.size)) av av w w':=⟨b,id,h.fb,λk e a=>a.elim id (λa=>by omega),λ_ _ _ _=>rfl,λk a=>.inl (h.fb k a)⟩;have g:=b.size;refine⟨m.mv,λk a=>a.elim (λa=>by have:=h.low k a;omega) (λa=>a.2),ai.ak b h.cn,h.gO,h.nodes.new b,h.jM,λi x f=>(h.node i x f).cY m id id,ai.ak b h.cls,h.fj,
  λi c a=>(h.a3 i c a).cY m λ_ _=>id,h.f_.new b,h.j6,λp d=>⟨(dK.cY m (h.eC p d).1 (h.eC p d).2 id (by simp)).1,(h.eC p d).2⟩,h.nodup⟩
theorem EV {av:bI}{X:bt}(h:b4 A av w aJ X)(cx:n_ X.pure)(x:ii):a9 37 [ptr aJ,x.val] w λv w'=>
  v=.bool (X.pure.step x).1/\dV A av w aJ (X.pure.step x).2 w' λ_=>True:=by
 refine a' Tryz.func37 ?_;refine Eq.mpr (Y3 aJ x.eC x.a3 x.node w _) ?_;rintro b1 w1 c5 cD;obtain⟨G,D⟩:=bo c5 cD;clear cD;have ad:=h.new D;have G:aq w1 b1 x.cells Bh:=G;refine⟨_,G.cell (i:=0) rfl,a5 (λea=>?_) (λea=>?_)⟩
 ·obtain ⟨i,er⟩:∃ i:Nat,x.eC=i:=⟨x.eC.toNat,by omega⟩;have bL:X.pure.step x=X.pure.iu i:=by
   unfold aH.step
   grind
  refine⟨_,G.cell (i:=0) rfl,?_⟩;rw[er];refine aE (KY ad cx i) ?_;rintro v eK ⟨rfl,ev⟩;refine⟨_,rfl,?_⟩;rw[bL];exact⟨rfl,dV.trans (h.refl D) ev⟩
 refine⟨_,G.cell (i:=0) rfl,a5 (λeb=>?_) (λeb=>?_)⟩
 ·have bL:X.pure.step x=(false,X.pure):=by unfold aH.step;grind
  rw[bL];exact⟨rfl,dV.same h D trivial⟩
 have a:X.pure.step x=match X.pure.cR x.a3 with
  |none=>(false,X.pure)
  |some C=>if x.node<0 then(false,X.pure)else match C.aG[x.node.toNat]?,X.pure.nodes[x.node.toNat]? with
   |some l,some n=>if l.pair.bj.length=0 then(false,X.pure)else
    (true,{X.pure with nodes:=X.pure.nodes.set x.node.toNat (l.pair.step n).2.1,aY:=X.pure.aY.set x.a3.toNat (C.comes x.node.toNat l (l.pair.step n).1 (l.pair.step n).2.2)})
   | _,_=>(false,X.pure):=by
  unfold aH.step
  grind
 refine⟨_,G.cell (i:=1) rfl,?_⟩;rcases X.sD x.a3 with⟨d8,ig⟩ | ⟨i,c,cz,s,ig⟩
 ·refine aE (rt ad ig) ?_;rintro v dW ⟨rfl,rfl⟩;rw[d8]at a;refine⟨_,rfl,?_⟩;intro dH aB;refine⟨λ_=>True,trivial,?_⟩
  rw[a];exact⟨rfl,dV.same h (D.new (by rw[aB];exact cC _)) trivial⟩
 have ez:=dk s;rw[cz];refine aE (sX ad s) ?_;rintro v dW ⟨rfl,rfl⟩;rw[ig]at a;refine⟨_,rfl,?_⟩;intro dH aB;have J:ai dW dH:=by rw[aB];exact cC _
 clear aB;have I:=ad.new J;have ae:=ai.ak J G;refine⟨λu=>ai dH u,ao.refl _ _,?_⟩;refine⟨_,λu hu=>(ai.ak hu ae).cell (i:=2) rfl,a5 (λcQ=>?_) (λcQ=>?_)⟩
 ·simp only[bm cQ]at a;rw[a];exact⟨rfl,dV.same h (D.new J) trivial⟩
 simp only[aW cQ]at a;obtain⟨j,dr⟩:∃ j:Nat,x.node=j:=⟨x.node.toNat,by omega⟩;have dt:x.node.toNat=j:=by omega
 rw[dt]at a;have ag:=cx.a3 i c.pure (by grind[bt.pure]);refine⟨_,λu hu=>(ai.ak hu ae).cell (i:=2) rfl,?_⟩;refine⟨_,_,_,λu hu=>(I.new hu).ih (k:=2) s rfl,a5 (λdN=>?_) (λdN=>?_)⟩
 ·have e:c.pure.aG[j]?=none:=Z' (by
   grind[b9.pure])
  simp only[e]at a;rw[a];exact⟨rfl,dV.same h (D.new J) trivial⟩
 have ec:¬ x.node>=(c.aG.length:Int):=dN;have eu:j<c.aG.length:=by omega
 obtain⟨l,bQ⟩:∃ l,c.aG[j]?=some l:=⟨c.aG[j],by grind⟩;have dR:j<X.nodes.length:=by
  have eE:=ag.aG
  grind[b9.pure,bt.pure]
 obtain⟨y,cN⟩:∃ y,X.nodes[j]?=some y:=⟨X.nodes[j],by grind⟩;have bD:c.pure.aG[j]?=some l.pure:=by grind[b9.pure]
 have cP:X.pure.nodes[j]?=some y.n:=by grind[bt.pure]
 simp only[bD,cP]at a;have bH:=ag.lane j l.pure bD;refine⟨_,_,_,λu hu=>(I.new hu).ih (k:=2) s rfl,_,λu hu=>(ai.ak hu ae).cell (i:=2) rfl,?_⟩;obtain⟨g,S,eo,⟨d',ei⟩,ek,cf⟩:=aZ.row (I.a3 i c s).own (lw c.aG) (by omega) (kw bQ);have ep:av g=.aG i:=(I.a3 i c s).tag g ⟨0,S⟩;show bk c.la c.aG.length x.node 2 _;rw[S,dr];refine dM (by omega) (by omega) ?_;rw[g9];refine⟨some ⟨l.pb,0,none⟩,λu hu=>jG hu (cf 0 _ rfl) id,?_⟩;refine aE (zd ((I.a3 i c s).lane j l bQ).pair) ?_;rintro v dX ⟨rfl,rfl⟩;refine⟨_,rfl,ao.refl _ _,dJ (λee=>?_) (λee=>?_)⟩
 ·have:l.pure.pair.bj.length=0:=by show l.p.bj.length=0;omega
  rw[bm this]at a;rw[a];exact⟨rfl,dV.same h (D.new J) trivial⟩
 have cA:¬ l.pure.pair.bj.length=0:=by show¬ l.p.bj.length=0;omega
 rw[aW cA]at a;intro dI cG;have bJ:ai dX dI:=by rw[cG];exact cC _
 clear cG;have bY:=I.new bJ;have ca:=ai.ak bJ ae;refine⟨λu=>ai dI u,ao.refl _ _,_,_,_,λu hu=>(bY.new hu).ih (k:=2) s rfl,_,λu hu=>(ai.ak hu ca).cell (i:=2) rfl,?_⟩;show bk c.la c.aG.length x.node 2 _;rw[S,dr];refine dM (by omega) (by omega) ?_;rw[g9];intro M cH;have bK:ai dI M:=by rw[cH];exact cC _
 clear cH;have t:=bY.new bK;have c_:=ai.ak bK ca;have a4:ai dX M:=bJ.new bK;have cm:ai w M:=(D.new J).new a4;have dP:av b1=.cF:=h.fresh (by omega);have cb:=t.a3 i c s;have a1:=cb.lane j l bQ;have dT:=t.node j y cN;refine⟨λu=>ao (λk=>iy i j j (av k)) M u,ao.refl _ _,some ⟨l.pb,0,none⟩,λu hu=>jG hu (jG a4 (cf 0 _ rfl) id) (by grind[iy]),?_⟩;refine⟨_,_,_,λu hu=>(hu.ak t.cn (by rw[t.gO];simp[iy])).cell (i:=1) rfl,_,λu hu=>(hu.ak c_ (by grind[iy])).cell (i:=2) rfl,?_⟩;refine rP (v:=ptr y.b) (i:=j) t.nodes (by grind) dr λdZ af b6=>⟨some ⟨y.b,0,none⟩,λu hu=>jG hu af ?_,?_⟩
 ·obtain⟨dK,dp,rfl⟩:=b6;show¬ iy i j j (av dK);rw[t.jM dK ⟨0,dp⟩];simp[iy]
 have ab:c.waiting<=1024:=by have ef:=ag.batch;have e:c.pure.waiting=c.waiting:=rfl;omega
 have W:l.bZ.length=l.p.bj.length:=bH.bZ;have cy:∀ dU:Option cW,dU.isSome=true->∃ cO bV cp,l.bZ=bV::cp/\bV<c.raw.length/\c.gY=some cO/\0<c.waiting:=by
  intro dU _;cases ew:l.bZ with
  |nil=>grind
  |cons bV cp=>
   have ck:=bH.low bV (by show bV ∈ l.bZ;grind);have dh:=h.a3 i c s;cases da:c.gY with
   |none=>grind[b9.pure]
   |some cO=>
    simp[b9.pure,da]at ck;refine⟨cO,bV,cp,rfl,by rw[dh.ds.1];grind,rfl,?_⟩;have ef:=ag.waiting;have e:c.pure.waiting=c.waiting:=rfl;have eF:l.p.bj.length<=g5 c.pure.aG:=by unfold g5;exact Jl (dD.2 ⟨l.pure,cu bD,rfl⟩)
    grind
 have Y:∀ (kU:a6) q r bx (cr:b4 kU av q aJ X),wg kU l.pb y.b y.aQ l.p y.n q r bx->∃ F E d p',r=.tuple #[d.val,.bool (l.p.pure.step y.n).2.2.isSome]/\Next kU F av E q bx/\
   b4 F E bx aJ {X with nodes:=X.nodes.set j {y with n:=(l.p.pure.step y.n).2.1},aY:=X.aY.set i {c with aG:=c.aG.set j {l with p:=p'} } }/\p'.pure=(l.p.pure.step y.n).1/\
   ao (λk=>iy i j j (av k)) q bx/\(∀ x,(l.p.pure.step y.n).2.2=some x->lv F bx d x):=by
  intro kU q r bx f b5;have U:=(f.a3 i c s).lane j l bQ;have K:=f.node j y cN;obtain⟨χ',d,p',rfl,H,ah,ch,dq,dA,dv,dE,cZ,dm⟩:=Dm U.pair U.tag (by simp) (λk s=>f.jK s) f.fb K.jS b5;obtain⟨aS,cX⟩:=f.IL s bQ cN ch dq dA dv ah cZ dE;exact⟨_,_,d,p',rfl,aS,cX,H,ch,dm⟩
 have Q:∀ (kU:a6) q,b4 kU av q aJ X->a9 70 [.pointer (some ⟨l.pb,0,none⟩),.pointer (some ⟨y.b,0,none⟩)] q (wg kU l.pb y.b y.aQ l.p y.n q):=by intro kU q f;have U:=(f.a3 i c s).lane j l bQ;have K:=f.node j y cN;exact E7 U.pair K.node (f.fb _ (by rw[K.jS];simp)) (f.fb _ (by rw[K.tag];simp)) (λeh=>by have:=U.tag _ (.inr (.inr eh));rw[K.jS]at this;grind) bH.hL
 have aT:∀ B az F E d p' q,ai M q->Next A F av E q B->b4 F E B aJ { X with nodes:=X.nodes.set j { y with n:=(l.p.pure.step y.n).2.1 },aY:=X.aY.set i { c with aG:=c.aG.set j { l with p:=p' } } }->p'.pure=(l.p.pure.step y.n).1->
   aq B az (bR.cells d) iT->(∀ x,(l.p.pure.step y.n).2.2=some x->lv F B d x)->∀ w' A' χ' cM,Next F A' E χ' B w'->b4 A' χ' w' aJ cM->
   cM.pure=(bt.pure {X with nodes:=X.nodes.set j {y with n:=(l.p.pure.step y.n).2.1},aY:=X.aY.set i {c with aG:=c.aG.set j {l with p:=p'} } }).eW i ((b9.pure {c with aG:=c.aG.set j {l with p:=p'} }).u3 j p'.pure l.bZ (l.p.pure.step y.n).2.2)->
   (Value.bool true=.bool (X.pure.step x).1/\dV A av w aJ (X.pure.step x).2 w' λ_=>True):=by
  intro B az F E d p' q cr aS eH H dQ eJ w' A' χ' cM dG cS c1;rw[a];refine⟨rfl,A',χ',cM,((h.refl (cm.new cr)).trans aS).trans dG,cS,?_,trivial⟩;rw[c1,bt.Xx,cz];have d9:(b9.pure {c with aG:=c.aG.set j {l with p:=p'} })={c.pure with aG:=c.pure.aG.set j ⟨p'.pure,l.pure.bZ⟩}:=by simp[b9.pure,m4,df.pure]
  have d_:l.bZ=l.pure.bZ:=rfl;rw[d9,d_,OJ _ _ _ _ _ (by grind),H];simp[aH.eW];exact⟨rfl,rfl⟩
 have aM:∀ p':dz,(X.aY.set i {c with aG:=c.aG.set j {l with p:=p'} })[i]?=some {c with aG:=c.aG.set j {l with p:=p'} }:=λp'=>by grind
 have cl:∀ p':dz,(c.aG.set j {l with p:=p'})[j]?=some {l with p:=p'}:=λp'=>by grind
 refine⟨?_,?_⟩
 ·refine aE (Q A M t) ?_;intro r bx b5;obtain⟨F,E,d,p',rfl,aS,cY,H,cj,dn⟩:=Y A M r bx t b5;refine⟨_,_,_,_,_,rfl,cj,?_⟩;rintro az eL c6 cK;obtain⟨cL,cq⟩:=bo c6 cK;refine⟨cj.new cq,fU (vs:=d.cells) cL (by simp[bR.cells]) (bR.single d),?_⟩;intro B a8;obtain⟨bh,V⟩:=oV (vs:=d.cells) cL (by simp[bR.cells]) cq (by omega) a8;clear cK a8;have aI:=cY.new V;have aP:∀ x,(l.p.pure.step y.n).2.2=some x->lv F B d x:=λx dF=>(dn x dF).aC (ao.b7 V) λ_ _ h=>h
  exact Dn (R:=λv w'=>v=.bool (X.pure.step x).1/\dV A av w aJ (X.pure.step x).2 w' λ_=>True) aI (aM p') (cl p') S bh (l.p.pure.step y.n).2.2 aP (cy _) (by show l.bZ.length<=1024;rw[W];exact a1.pair.len) ab
   (aT B az F E d p' M (ao.refl _ _) (aS.new V) aI H bh aP)
 ·rintro N bN c9 bb;obtain ⟨bq,z⟩:=bo c9 bb;clear bb;refine ⟨ao.b7 z,?_⟩;refine aE (Q _ bN (t.Cd z)) ?_;intro r bO b5;obtain ⟨F,E,d,p',rfl,aS,bW,H,aV,cd⟩:=Y _ bN r bO (t.Cd z) b5;have aL:av N=.cF:=t.fresh (by omega);have br:=aV.ak bq (by grind [iy]);refine ⟨_,_,_,_,_,rfl,(ao.b7 z).trans aV (λk _ h=>h),fU (vs:=d.cells) br (by simp [bR.cells]) (bR.single d),?_⟩;intro L Z;have bs:aq L N d.cells iT:=by
   have hw:L=cv bO ⟨N,0,none⟩ 0 d.cells:=Z;rw[hw];have:=br.cv (o:=0) (i:=0) (vs:=d.cells);rw[oG (by simp[bR.cells])]at this
   grind
  have T:ao (λk=>k=N) bO L:=by rw[Z];exact hD _ _ _ _ _
  clear Z;have P:N<bN.heap.size:=bq.lt;have dS:=z.size;have eg:F N:=(aS.iff N).2 (.inr ⟨P,.inr ⟨by omega,P⟩,aL⟩);have eB:E N=.cF:=by
   by_cases s:E N=.cF
   ·exact s
   ·exact b_ aL (aS.grow N P s)
  have bX:=bW.other T (λk bG=>by grind);have a7:∀ k,gu A av E M k->F k:=by
   intro k bG;refine(aS.iff k).2 ?_;rcases bG with bG | bG
   ·exact .inl bG
   ·exact .inr ⟨by omega,.inl bG.2.1,bG.2.2⟩
  have O:=bX.mP a7 (λk s=>.inl s);have dy:Next A (gu A av E M) av E M L:=by refine⟨((ao.b7 z).trans aS.aC λ_ _ h=>h).trans T λk dw e=>by omega,λk dw s=>aS.grow k (by omega) s,λ_=>Iff.rfl⟩
  have aR:∀ x,(l.p.pure.step y.n).2.2=some x->lv (gu A av E M) L d x:=λx dF=>(cd x dF).aC (T.mono λk _ e=>by grind) λk _ s=>a7 k s
  exact Dn (R:=λv w'=>v=.bool (X.pure.step x).1/\dV A av w aJ (X.pure.step x).2 w' λ_=>True) O (aM p') (cl p') S bs (l.p.pure.step y.n).2.2 aR (cy _) (by show l.bZ.length<=1024;rw[W];exact a1.pair.len) ab
   (aT L N _ E d p' M (ao.refl _ _) dy O H bs aR)
end
section
theorem EI {α:Type}{l:List α}{k:Nat}{x:α}(h:l[k]?=some x):l.drop k=x::l.drop (k+1):=by
 grind[List.getElem?_eq_some_iff,List.drop_eq_getElem_cons]
def oZ (l:List ii):List au:=l.map ii.cells
theorem CY (l:List ii):∀ r ∈ oZ l,r.length=3:=by intro r a;simp only[oZ,dD]at a;obtain⟨l,_,rfl⟩:=a;rfl
theorem CZ {l:List ii}{x:ii}(h:l[i]?=some x):(oZ l)[i]?=some x.cells:=by grind[oZ]
structure kZ (w u:aj)(a:an)(cap:Nat)(out:List ii):Prop where
 new:ai w u
 own:aZ u Bh 3 a out.length cap (oZ out).flatten
 fresh:∀ k,aP a k->w.heap.size<=k
theorem kZ.step {u bF:aj}{out:List ii}(h:kZ w u a cap out)(b:ai u bF):kZ w bF a cap out:=⟨h.new.new b,h.own.new b,h.fresh⟩
theorem kZ.append {w u bp:aj}{a:an}{cap b:Nat}{out:List ii}(h:kZ w u a cap out)(x:ii)(C:b=u.heap.size)(hw:bp=u.alloc (.cells x.cells.toArray 89))(J:out.length<=1000000000) :
  ∃ bS f b3,(Builtin.append_ #[85,85] 85 #[.slice a out.length cap,.slice (some ⟨b,0,none⟩) 1 1]).run prog bp=.ok (.slice bS (out++[x]).length f) b3/\kZ w b3 bS f (out++[x]):=by
 obtain⟨ax,y⟩:=bo C hw;have r:=h.step y;obtain⟨G,E,q,d,D⟩:=ft (T:=89) (z:=.agg #[.int .i64 0,.int .i64 0,.int .i64 0]) (n:=3) (m:=24) (by kernel_rfl);have i:aZ bp Bh G.size a out.length cap (oZ out).flatten:=by rw[d];exact r.own
 obtain⟨ap,cT,H,B,g,p,l⟩:=i.append (P:=prog) (t:=85) (ty:=85) Tryz.underlying85 E q (by rw[d];rfl) (by omega)
  (s:=some ⟨b,0,none⟩) (m:=1) (c:=1) (news:=x.cells) (by rw[d];rfl) (e6 ax (by grind)) (by simp[ii.cells,single]) (by omega) (by grind)
 rw[d]at g;have I:(oZ (out++[x])).flatten=(oZ out).flatten++x.cells:=by simp[oZ]
 refine⟨ap,cT,H,by grind,r.new.trans p λk F j=>?_,?_,λk j=>?_⟩
 ·have:=h.fresh k j;omega
 ·grind
 ·rcases l with e | e
  ·exact h.fresh k (e▸j)
  ·obtain⟨o,A⟩:=j;rw[e]at A;simp at A;have:=h.new.size;have:=y.size;omega
theorem kZ.nil (w:aj):kZ w w none 0 []:=⟨ao.refl _ _,aZ.nil _ _ _,λk ⟨o,a⟩=>by cases a⟩
theorem I' (i:Nat):∀ (j:Nat) (ls:List cL),(k7 i j ls).length<=ls.length
 | _,[]=>by simp[k7]
 |j,l::ls=>by have:=I' i (j+1) ls;simp only[k7,hi,jB];split<;>simp<;>omega
theorem B6 {n:Nat}:∀ (i:Nat) (cs:List bB),(∀ c ∈ cs,c.aG.length<=n)->(jY i cs).length<=cs.length*n
 | _,[],_=>by simp[jY]
 |i,c::cs,h=>by
  have b:=B6 (i+1) cs λc a=>h c (gm _ a)
  have d:=I' i 0 c.aG;have e:=h c (g_ ..);simp only[jY,hi,jB,tD,Nat.one_mul];omega
theorem rx:∀ (i:Nat)(cp:List db),(ip i cp).length=cp.length
 | _,[]=>rfl
 |i,p::cp=>by simp[ip,rx (i+1) cp]
theorem Mt {av:bI}{X:bt}(h:b4 A av w aJ X)(G:n_ X.pure)(bK:X.b2.length<=100000000):a9 36 [ptr aJ] w λv w'=>
  ∃ a cap,v=.slice a X.pure.e5.length cap/\kZ w w' a cap X.pure.e5:=by
 refine a' Tryz.func36 ?_;rw[ptr,t8];have O:∀ c ∈ X.pure.aY,c.aG.length<=5:=by
  intro c C;obtain⟨i,bb⟩:=eP.1 C;have bX:=(G.a3 i c bb).aG;have bY:=G.nodes
  grind
 have ah:X.pure.aY.length=X.aY.length:=by simp[bt.pure]
 have a8:=B6 0 X.pure.aY O;have a7:=G.aY;have aT:∀ (i:Nat) (c:b9),X.aY[i]?=some c->X.pure.aY[i]?=some c.pure:=λi c C=>by grind[bt.pure]
 refine ⟨_,_,_,h.cn.cell rfl,?_⟩;refine cP mix (λm env u=>∃ (i:Nat) (ad:au) (a:an) (cap:Nat) (out:List ii),i<=X.aY.length/\m=X.aY.length - i/\env=xT ⟨aJ,0,none⟩ a out.length cap (some ⟨X.a0,0,none⟩) X.aY.length X.aY.length X.aY.length i ad/\
   kZ w u a cap out/\out++jY i (X.pure.aY.drop i)=jY 0 X.pure.aY) X.aY.length ⟨0,_,none,0,[],by omega,by omega,rfl,kZ.nil w,rfl⟩ ?_
 rintro m env u ⟨i,ad,a,cap,out,bb,rfl,rfl,s,y⟩;rw[Uh];refine a5 (λaL=>?_) (λaL=>?_)
 ·have bs:i<X.aY.length:=by omega
  obtain⟨c,C⟩:∃ c,X.aY[i]?=some c:=⟨X.aY[i],by grind⟩;have ae:=h.new s.new;refine dM (by omega) (by omega) ?_;rw[g9];have r:b6 u ⟨X.a0,0+i*7,none⟩ 0 c.cells:=jk λk v ar=>by
   have:=ae.ih C ar
   grind
  refine⟨_,_,_,_,_,_,_,_,_,_,_,r,?_⟩;rintro b1 w1 af V;obtain⟨ax,R⟩:=bo af V;refine⟨fU (vs:=c.cells) ax (by simp[b9.cells]) (by simp[b9.cells,single]),?_⟩;intro ca W;obtain⟨aV,aP⟩:=oV (vs:=c.cells) ax (by simp[b9.cells]) R (by omega) W;clear V W ax R;refine⟨_,_,_,aV.cell (i:=2) rfl,?_⟩;have F:X.pure.aY.drop i=c.pure::X.pure.aY.drop (i+1):=by
   grind[zf,List.getElem?_eq_getElem]
  rw[F]at y;have bO:c.pure.aG.length=c.aG.length:=by simp[b9.pure]
  have bH:=O c.pure (cu (aT i c C));refine cP mix (λm env z=>∃ (j:Nat) (bk:au) (bS:an) (e:Nat) (d:List ii),j<=c.aG.length/\m=c.aG.length-j/\env=u' ⟨aJ,0,none⟩ bS d.length e i (some ⟨X.a0,0,none⟩) X.aY.length X.aY.length X.aY.length i c.la c.aG.length c.lc c.aG.length j bk/\
   kZ w z bS e d/\d++k7 i j (c.pure.aG.drop j)++jY (i+1) (X.pure.aY.drop (i+1))=jY 0 X.pure.aY) c.aG.length ⟨0,_,a,cap,out,by omega,by omega,rfl,s.step aP,by grind[jY]⟩ ?_
  rintro m env z ⟨j,bk,bS,e,d,b5,rfl,rfl,f,H⟩;rw[Ui];have L:=h.new f.new;have aB:d.length<=30:=by
   grind
  refine a5 (λP=>?_) (λP=>?_)
  ·have bD:j<c.aG.length:=by omega
   obtain⟨l,bh⟩:∃ l,c.aG[j]?=some l:=⟨c.aG[j],by grind⟩;obtain⟨g,N,_,_,ao,_⟩:=aZ.row (L.a3 i c C).own (lw c.aG) (by omega) (kw bh);rw[N];refine dM (by omega) (by omega) ?_;rw[g9];refine⟨_,_,_,_,ao,?_⟩;rintro bW cb ag Y;obtain⟨K,S⟩:=bo ag Y;refine⟨fU (vs:=l.cells) K (by simp[df.cells]) (by simp[df.cells,single]),?_⟩;intro cd Z;obtain⟨aW,T⟩:=oV (vs:=l.cells) K (by simp[df.cells]) S (by omega) Z;clear Y Z K S;refine⟨_,aW.cell (i:=0) rfl,?_⟩;have aM:=((L.new T).a3 i c C).lane j l bh;refine aE (zd aM.pair) ?_;rintro v bQ ⟨rfl,rfl⟩;have E:c.pure.aG.drop j=l.pure::c.pure.aG.drop (j+1):=by
    grind[zf,b9.pure,List.getElem?_eq_getElem]
   rw[E]at H;have x:=f.step T;rw[<-N];refine⟨_,rfl,a5 (λbN=>?_) (λbN=>?_)⟩
   ·have aR:0<l.pure.pair.bj.length:=by show 0<l.p.bj.length;omega
    rintro br bm B J;obtain⟨ap,cT,a1,q,n⟩:=x.append ⟨-1,i,j⟩ B J (by omega);refine⟨ap,_,cT,a1,q,?_⟩;rw[show IntKind.i64.wrap ((j:Int)+1)=((j+1:Nat):Int) by rw[bq (by omega) (by omega)];rfl];refine⟨c.aG.length-(j+1),by omega,j+1,_,ap,cT,d++[⟨-1,i,j⟩],by omega,rfl,rfl,n,?_⟩
    grind[k7]
   ·have aR:¬ 0<l.pure.pair.bj.length:=by show¬ 0<l.p.bj.length;omega
    rw[show IntKind.i64.wrap ((j:Int)+1)=((j+1:Nat):Int) by rw[bq (by omega) (by omega)];rfl];refine⟨c.aG.length-(j+1),by omega,j+1,_,bS,e,d,by omega,rfl,rfl,x,?_⟩
    grind[k7]
  ·have bx:j=c.aG.length:=by omega
   rw[VB];rw[show IntKind.i64.wrap ((i:Int)+1)=((i+1:Nat):Int) by rw[bq (by omega) (by omega)];rfl];refine⟨X.aY.length-(i+1),by omega,i+1,_,bS,e,d,by omega,rfl,rfl,f,?_⟩
   grind[List.drop_length,k7]
 ·have aq:i=X.aY.length:=by omega
  rw[aq,<-ah,Jn]at y;have I:out=jY 0 X.pure.aY:=by grind[jY]
  rw[VA];have ae:=h.new s.new;refine⟨_,_,_,ae.cn.cell (i:=3) rfl,?_⟩;have bL:X.pure.b2.length=X.b2.length:=by simp[bt.pure]
  refine cP mix (λm env z=>∃ (i:Nat) (ad:au) (a:an) (cap:Nat) (out:List ii),i<=X.b2.length/\m=X.b2.length-i/\env=xU a out.length cap X.f9 X.b2.length X.jN X.b2.length i ad/\
   kZ w z a cap out/\out++ip i (X.pure.b2.drop i)=X.pure.e5) X.b2.length ⟨0,_,a,cap,out,by omega,by omega,rfl,s,by rw[I];rfl⟩ ?_
  rintro m env z ⟨k,b_,bR,a4,ab,b7,rfl,rfl,t,o⟩;rw[Uj];have M:=h.new t.new;have aI:ab.length<=100000030:=by
   have:=eh List.length o
   grind[List.length_append,aH.e5,rx]
  refine a5 (λQ=>?_) (λQ=>?_)
  ·have bG:k<X.b2.length:=by omega
   obtain⟨b,p,bJ⟩:∃ b p,X.b2[k]?=some (b,p):=⟨X.b2[k].1,X.b2[k].2,by grind⟩;have U:=(M.eC _ (cu bJ)).1;refine rP (v:=ptr b) (i:=k) M.f_ (by grind) rfl λbV D _=>⟨some ⟨b,0,none⟩,D,?_⟩
   refine aE (MD U) ?_;rintro v bQ ⟨rfl,rfl⟩;refine⟨_,rfl,?_⟩;refine aE (E6 U) ?_;rintro v bm ⟨rfl,rfl⟩;refine⟨_,rfl,?_⟩;rintro br bm B J;obtain⟨ap,cT,a1,q,n⟩:=t.append ⟨k,p.a3,p.node⟩ B J (by omega);refine⟨ap,_,cT,a1,q,?_⟩;rw[show IntKind.i64.wrap ((k:Int)+1)=((k+1:Nat):Int) by rw[bq (by omega) (by omega)];rfl];refine⟨X.b2.length-(k+1),by omega,k+1,_,ap,cT,_,by omega,rfl,rfl,n,?_⟩;have E:X.pure.b2.drop k=p.pure::X.pure.b2.drop (k+1):=EI (by grind[bt.pure]);rw[<-o,E];rw[ip,vP];rfl
  grind[List.drop_length,ip,VC]
end
end Go.Proofs.YtmkljjbioomepaaGreat
