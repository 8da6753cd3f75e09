import Derived.Test.YtmkljjbioomepaaGreatg16
import Derived.Test.YtmkljjbioomepaaGreatg12
import Derived.Test.YtmkljjbioomepaaGreatg11
set_option linter.all false
set_option maxHeartbeats 4000000
set_option maxRecDepth 100000
namespace Go.Proofs.YtmkljjbioomepaaGreat
open Go.Proofs.Tryz Go.bJ
variable {A:a4}{B dc k5 i lc hz aI tb:Nat}{Q jx:Exit->ax->aJ}{R:cM}{dJ jD fX aW pb:ak}{flag:Bool}{aC:ax}{o:Int×Int}{u bQ cl w0 z ch:an}
section
abbrev jS:bY:=309
def oF (l:List du):List ax:=l.map du.cells
def dg (j:bL):List du:=
 ⟨j.dead,j.fJ,true⟩::(if nJ j.prev=true/\l6 j.prev≠j.dead then[⟨l6 j.prev,l5 j.prev+1,false⟩]else[])
theorem EQ {j:bL}(h:A8 j):∀ f ∈ dg j,0<=f.aL/\f.aL<6/\0<=f.least/\f.least<=60:=by
 intro f a;have e:=h.dead;have g:=h.fJ;unfold dg at a;rcases f0.1 a with rfl | a
 ·grind
 split at a
 ·rename_i b;have b:=qK (show nJ j.prev=true from b.1);obtain⟨c,d⟩:=wa b
  grind[zN,l6,l5]
 grind
section
variable {A:a4}{w0 u:an}{aI tb:Nat}{r:c_}{m:aS}{j:bL}{V:eU}{T:eM}{G:a3}
theorem PB (l:dv w0 u aI tb r m j V o):a5 219 [ptr aI] u λv bB=>∃ a cap,v=.slice a (dg j).length cap/\ai u bB/\bl bB a (oF (dg j)).flatten/\∀ k,aP a k->u.heap.size<=k:=by
 refine ba Tryz.func219 ?_;rw[ptr,Vh];rintro w1 w;have b:ai u w1:=by rw[w];exact cR _
 clear w;have f:=l.bH b;have X:=l.bp.dead;have I:=l.bp.fJ;have L:=l.bp.prev;have Y:=l.cg.fJ;refine⟨λy=>ai w1 y,ao.refl _ _,r.e7,λy M=>(ai.aj M f.aj).cell (i:=5) rfl,r.gA,λy M=>(ai.aj M f.aj).cell (i:=6) rfl,?_⟩;dsimp only;rw[X,I,kP (x:=j.fJ) (by omega) (by omega)];rintro b1 O G A;obtain⟨d,c⟩:=bo G A;have d:av O b1 (du.cells ⟨j.dead,j.fJ,true⟩) jS:=d;clear A;have s:=f.bH c;refine⟨c,r.il,s.aj.cell (i:=7) rfl,?_⟩;rw[L];refine aB (CG O l.cg.prev) ?_;rintro v P ⟨rfl,rfl⟩;have aM:∀ k,aP (some ⟨b1,0,none⟩) k->u.heap.size<=k:=λk C=>by obtain⟨ah,K⟩:=C;simp at K;have:=b.size;omega
 have one:∀ F,dg j=F->F=[⟨j.dead,j.fJ,true⟩]->∃ a cap,Value.slice (some ⟨b1,0,none⟩) 1 1=.slice a (dg j).length cap/\ai u P/\bl P a (oF (dg j)).flatten/\∀ k,aP a k->u.heap.size<=k:=by intro F D E;rw[D,E];exact⟨_,_,rfl,b.new c,fj d rfl,aM⟩
 refine⟨_,_,_,rfl,gW (λN=>⟨r.e7,s.aj.cell (i:=5) rfl,d8 (λJ=>?_) (λhe=>?_)⟩) (λN=>?_)⟩
 ·have J:l6 j.prev≠j.dead:=by grind
  have U:dg j=[⟨j.dead,j.fJ,true⟩]++[⟨l6 j.prev,l5 j.prev+1,false⟩]:=by unfold dg;grind
  have q:=qK (show nJ j.prev=true from N);obtain⟨af,ag⟩:=wa q;obtain⟨ad,ae,_⟩:=zN q;rw[bI (x:=l5 j.prev+1) (by omega) (by omega),kP (x:=l5 j.prev+1) (by omega) (by omega)];rintro R Q H B;obtain⟨h,g⟩:=bo H B;have h:av Q R (du.cells ⟨l6 j.prev,l5 j.prev+1,false⟩) jS:=h;clear B;obtain⟨inf,Z,aq,t,W⟩:=fV (T:=jS) (z:=du.val ⟨0,0,false⟩) (n:=3) (m:=24) (by kernel_rfl);have ab:aX Q jS 3 (some ⟨b1,0,none⟩) 1 1 ([(⟨j.dead,j.fJ,true⟩:du)].map du.cells).flatten:=⟨rfl,.inr ⟨b1,_,rfl,ai.aj g d,db 1,by decide,rfl,rfl⟩⟩;refine qW (cells:=du.cells) (sz:=3) du.len du.single Tryz.underlying306 Z aq (by rw[t];rfl) t (by decide) (by grind) ab (l2:=[⟨l6 j.prev,l5 j.prev+1,false⟩]) (m:=1) (fj h rfl) rfl (by decide) λap p aG D E S=>?_
  rw[U];refine⟨ap,p,rfl,?_,D.rd,λk C=>by
   rcases S k C with e | e
   ·grind
   ·have:=((b.new c).new g).size;omega⟩
  refine((b.new c).new g).trans E λk C e=>?_
  grind
 ·exact one _ rfl (by unfold dg;grind)
 ·exact one _ rfl (by unfold dg;grind)
def sQ (j:bL)(bj:aS)(f:du):bc:=nK j bj (24+f.aL) 1
def hW (j:bL):a_:=(j.v.mem.map λbj=>(dg j).map (sQ j bj)).flatten
theorem Nu (C:dv w0 u aI tb r m j V o)(bD:bl u jD (oF (dg j)).flatten)(aC:ax)
  (ah:∀ bB aW n pc aC,ai u bB->bP u bB aW n pc (hW j)->Go.bJ.W prog (sub (bu f179) [1,1,1,1]) (Bv ⟨aI,0,none⟩ jD (dg j).length k5 aW n pc aC) (dE prog f179 R) bB) :
  cz prog (.loop (sub (bu f179) [1,1,1,0,1,0,0])) (vl ⟨aI,0,none⟩ jD (dg j).length k5 none 0 0 r.View.f7 r.View.fq r.View.gB r.View.fq 0 aC)
   (aO 0 (aZ (λenv w=>Go.bJ.W prog (sub (bu f179) [1,1,1,1]) env (dE prog f179 R) w) (dE prog f179 R))) u:=by
 obtain⟨b_,s⟩:=C.bp.view;have hlen:=s.len;have bN:=C.cg.mem;have bK:(dg j).length<=2:=by grind[dg]
 have af:=EQ C.cg;have bh:=C.aj.lt;refine cZ mix (λq env z=>∃ (i:Nat) (aW:ak) (n pc:Nat) (aC:ax),q=j.v.mem.length - i/\i<=j.v.mem.length/\env=vl ⟨aI,0,none⟩ jD (dg j).length k5 aW n pc r.View.f7 r.View.fq r.View.gB r.View.fq i aC/\ai u z/\n<=2 * i/\
   bP u z aW n pc ((j.v.mem.take i).map λbj=>(dg j).map (sQ j bj)).flatten) j.v.mem.length
  ⟨0,none,0,0,_,by omega,by omega,rfl,ao.refl _ _,by omega,bP.nil _ _⟩ ?_
 rintro q env z ⟨i,aW,n,pc,aC,rfl,cj,rfl,E,b0,F⟩;refine hG (fn:=f179) (R:=R) (λ_ _=>rfl) ?_;rw[Uh,hlen];have J:=C.new.new E;refine bb (λbT=>?_) (λbM=>?_)
 ·obtain⟨bj,hm⟩:∃ bj,j.v.mem[i]?=some bj:=⟨_,b2 (by omega)⟩;have bV:=C.cg.eX bj (b9 hm);refine eQ (cells:=aS.cells) aS.len (by omega) (s.rd.new J) hm rfl rfl λb cm ad _=>aS.aV bj ⟨ad,?_⟩
  refine io (vs:=bj.cells) rfl (aS.single _) λZ ct bA a5 K=>?_
  refine cZ mix (λq env y=>∃ (k:Nat) (aW:ak) (n pc:Nat) (aC:ax),q=(dg j).length - k/\k<=(dg j).length/\env=x3 ⟨aI,0,none⟩ jD (dg j).length k5 aW n pc ⟨Z,0,none⟩ r.View.f7 j.v.mem.length r.View.gB j.v.mem.length i jD (dg j).length k5 (dg j).length k aC/\ai u y/\av y Z bj.cells eL/\n<=2 * i+k/\
    bP u y aW n pc (((j.v.mem.take i).map λbj=>(dg j).map (sQ j bj)).flatten++((dg j).take k).map (sQ j bj))) (dg j).length
   ⟨0,aW,n,pc,_,by omega,by omega,rfl,E.new K,a5,by omega,by simpa using F.new K⟩ ?_
  rintro q env y ⟨k,aW,n,pc,aC,rfl,bO,rfl,h,X,b3,P⟩;refine hG (fn:=f179) (R:=R) (λ_ _=>rfl) ?_;rw[Ui];refine bb (λba=>?_) (λa'=>?_)
  ·obtain⟨f,t⟩:∃ f,(dg j)[k]?=some f:=⟨_,b2 (by omega)⟩;have A:=af f (b9 t);refine eQ (cells:=du.cells) du.len (by omega) (bD.new h) t rfl rfl λca cn H _=>du.aV f ⟨H,?_⟩
   refine io (vs:=f.cells) rfl (du.single _) λbq b7 bC a8 aQ=>?_
   rintro bm U;have L:ai b7 bm:=by rw[U];exact cR _
   clear U;have g:=aQ.new L;have c:=ai.aj g X;have d:=ai.aj L a8;refine⟨λx=>av x Z bj.cells eL/\av x bq f.cells jS,⟨c,d⟩,aS.aV bj ⟨λx a0=>bX a0.1 rfl,f.aL,λx a0=>a0.2.cell (i:=0) rfl,?_⟩⟩;refine aB (Al bm ⟨A.1,A.2.1⟩) ?_;rintro v cp ⟨rfl,p⟩;refine⟨_,rfl,⟨ai.aj p c,ai.aj p d⟩,?_⟩;refine aB (wi (C.bH ((h.new g).new p)) (m:=bj) (by grind[dU]) (24+f.aL) 1) ?_;rintro v bo ⟨b5,rfl,aR,D⟩;have a:=p.new D;refine aG.aV b5 ⟨rfl,⟨ai.aj a c,ai.aj a d⟩,?_⟩;rintro cb b8 ab S;have N:ai bo b8:=by rw[S];exact hF _ _
   have l:=(g.new p);refine⟨⟨ai.aj (a.new N) c,ai.aj (a.new N) d⟩,bP.mC (P.new l) (h.new l) D aR (by omega) ab S λap G cr cd I M=>?_⟩;obtain⟨bk,O,_⟩:=P.ex;have off:∀ {b:Nat} {cs:ax} {T:bY},T≠cP->av bo b cs T->¬ aP aW b:=λbx bz ah=>by obtain⟨br,ae⟩:=gN (aX.new ((l.new D)) O) ah;exact ae.ne bz (λe=>bx e.symm) rfl
   have B:=I.aj (ai.aj a c) (off (by decide) (ai.aj a c));have Y:=I.aj (ai.aj a d) (off (by decide) (ai.aj a d));refine⟨⟨B,Y⟩,fa ?_⟩;rw[bI (x:=(k:Int)+1) (by omega) (by omega)];refine⟨(dg j).length-(k+1),by omega,k+1,ap,n+1,G,_,rfl,by omega,rfl,M,B,by omega,?_⟩
   grind[dg,sQ,List.take_add_one]
  ·have aH:k=(dg j).length:=by omega
   subst aH;refine qQ (qq (rY (fa ?_)));rw[Uy,bI (x:=(i:Int)+1) (by omega) (by omega)];refine fa (Q:=aO 0 (aZ (λenv w=>Go.bJ.W prog (sub (bu f179) [1,1,1,1]) env (dE prog f179 R) w) (dE prog f179 R))) ⟨j.v.mem.length-(i+1),by omega,i+1,aW,n,pc,_,rfl,by omega,by rw[<-hlen];rfl,h,by omega,?_⟩
   grind[List.take_length,dg,sQ,List.take_add_one]
 ·have ag:i=j.v.mem.length:=by omega
  subst ag;refine qQ (qq (fa ?_));rw[ja]at F;exact ah z aW n pc _ E F
end
end
section
def rL:du:=⟨0,0,false⟩
def di (ds:ck)(i:Nat):Int:=ed (ds.getD i ⟨0,[]⟩)
def gO (j:bL)(i:Nat):du:=(dg j).getD (i % (dg j).length) rL
def om (j:bL)(i:Nat):aS:=j.v.mem.getD (i / (dg j).length) kk
def ka (j:bL)(ds:ck)(i:Nat):Bool:=(gO j i).exact && decide (di ds i>(gO j i).least)
def uN (j:bL)(ds:ck)(i:Nat):bc:=sP j (om j i) (24+(gO j i).aL) (di ds i) (gO j i).least
def uc (j:bL)(ds:ck)(i:Nat):List (bc×du):=if di ds i<(gO j i).least then[(uN j ds i,gO j i)]else[]
def iy (j:bL)(ds:ck)(n:Nat):List (bc×du):=((List.range n).map (uc j ds)).flatten
theorem Cc (j:bL)(ds:ck)(n:Nat):iy j ds (n+1)=iy j ds n++uc j ds n:=by
 grind[iy,List.range_succ]
theorem Cg (j:bL):0<(dg j).length/\(dg j).length<=2:=by grind[dg]
noncomputable abbrev hs:Func:=f179
structure oT (w0 u z:an)(aI tb:Nat)(r:c_)(m:aS)(j:bL)(V:eU)(aW:ak)(n pc:Nat)(pb:ak)(hz:Nat)(L:List (bc×du)):Prop where
 eI:dv w0 z aI tb r m j V (0,0)
 new:ai u z
 kN:bP u z aW n pc (L.map Prod.fst)
 tk:aX z jS 3 pb n hz (oF (L.map Prod.snd)).flatten
 g0:∀ k,aP pb k->u.heap.size<=k
 le:w0.heap.size<=u.heap.size
theorem oT.h_ {r:c_}{m:aS}{j:bL}{V:eU}{n pc:Nat}{L:List (bc×du)}(h:oT w0 u z aI tb r m j V aW n pc pb hz L)(a:ai z ch):oT w0 u ch aI tb r m j V aW n pc pb hz L:=
 ⟨h.eI.bH a,h.new.new a,h.kN.new a,aX.new a h.tk,h.g0,h.le⟩
theorem Nv {j:bL}{ds:ck}{n:Nat}:∀ x ∈ (iy j ds n).map Prod.fst,x.words=[]:=by
 intro x c;obtain⟨p,a,rfl⟩:=cW.1 c;unfold iy at a;obtain⟨l,b,a⟩:=qL.1 a;obtain⟨i,_,rfl⟩:=cW.1 b;unfold uc at a;split at a
 ·simp at a;rw[a];rfl
 grind
theorem Nw {r:c_}{m:aS}{j:bL}{V:eU}{n pc:Nat}{ds:ck}(h:oT w0 u z aI tb r m j V aW n pc pb hz (iy j ds i))(c5:i<j.v.mem.length * (dg j).length)(dq:n<=i)
  {ab:Nat} (af:av z ab (gO j i).cells jS) (ct:u.heap.size<=ab/\¬ aP pb ab) (b2:cy (di ds i)) (p:flag=ka j ds i) {dl:Nat} (dQ:∀ env w,Q .ret env w=dE prog hs R .ret env w)
  (cu:ka j ds i=true->∀ ch,ao (λk=>k=aI) z ch->dv w0 ch aI tb r m j V (11,0)->R (.bool false) ch)
  (bA:ka j ds i=false->∀ ch bq n' bx br M aC,oT w0 u ch aI tb r m j V bq n' bx br M (iy j ds (i+1))->n'<=i+1->Q .normal (x5 ⟨aI,0,none⟩ jD (dg j).length k5 bq n' bx br n' M dJ dl dc dl i aC) ch) :
  Go.bJ.W prog (sub (bu hs) [1,1,1,1,1,1,1,1,0,1,0,0,1,1,0,0,1,1,0,1]) (rr ⟨aI,0,none⟩ jD (dg j).length k5 aW n pc pb n hz i ⟨ab,0,none⟩ (di ds i) dJ dl dc dl i flag aC) Q z:=by
 refine hG (fn:=hs) (R:=R) dQ ?_;rw[Uz];have g:=h.eI;obtain⟨b3,c3⟩:=Cg j;have c4:=g.cg.mem;have ag:(gO j i) ∈ dg j:=by
  unfold gO
  grind[dg,Nat.mod_lt,List.getElem?_eq_getElem,List.getElem_mem]
 have s:=EQ g.cg _ ag;cases flag with
 |true=>
  refine hc rfl ?_;refine aB (wE g 11) ?_
  grind
 |false=>
  refine dG rfl ⟨_,af.cell (i:=1) rfl,bb (λah=>?_) (λb5=>?_)⟩
  ·rintro cF bm;have aH:ai z cF:=by rw[bm];exact cR _
   clear bm;have bz:=h.h_ aH;obtain⟨dn,A⟩:=g.bp.view;have hlen:=A.len;have b_:i / (dg j).length<j.v.mem.length:=(Nat.div_lt_iff_lt_mul b3).2 c5;have hm:j.v.mem[i / (dg j).length]?=some (om j i):=by
    grind[om,List.getElem?_eq_getElem]
   have c7:=g.cg.eX _ (b9 hm);have hdiv:Int.tdiv (i:Int) ((dg j).length:Int)=((i / (dg j).length:Nat):Int):=rfl;generalize i / (dg j).length=q at b_ hm hdiv;have cz:i<=10:=by
    grind[dg,Nat.mul_le_mul]
   refine⟨λy=>∃ V o,dv w0 y aI tb r m j V o,⟨_,_,bz.eI⟩,r.View.f7,r.View.fq,r.View.gB,λy P=>by obtain⟨cT,db,P⟩:=P;exact P.aj.cell (i:=4) rfl,rfl,by omega,?_⟩;rw[hdiv];refine lg (cells:=aS.cells) aS.len (by omega) A.rd hm (bI (by omega) (by omega)) hlen λb o c2=>aS.aV (om j i) ⟨λy P=>by obtain⟨cT,db,P⟩:=P;exact k_ (i:=0) λq v al=>by simpa using c2 y P.new q v al,?_⟩
   rintro b1 de bT bj;obtain⟨S,aR⟩:=bo bT bj;have S:av de b1 (aS.cells ⟨0,0,false⟩) eL:=S;clear bj;refine⟨⟨_,_,(bz.h_ aR).eI⟩,dY (vs:=(om j i).cells) S rfl (aS.single _) λcG cm b8=>?_⟩;have aO:ai cF cG:=aR.trans b8 λk ah e=>by omega
   rintro cI bk;have aZ:ai cG cI:=by rw[bk];exact cR _
   clear bk;have J:=aO.new aZ;have F:=ai.aj aZ cm;have d:=ai.aj (aH.new J) af;refine⟨λx=>av x b1 (om j i).cells eL/\av x ab (gO j i).cells jS,⟨F,d⟩,aS.aV (om j i) ⟨λx Z=>bX Z.1 rfl,(gO j i).aL,λx Z=>Z.2.cell (i:=0) rfl,(gO j i).least,λx Z=>Z.2.cell (i:=1) rfl,?_⟩⟩;refine aB (Al cI ⟨s.1,s.2.1⟩) ?_;rintro v dr ⟨rfl,E⟩;refine⟨_,rfl,⟨ai.aj E F,ai.aj E d⟩,?_⟩;have K:=J.new E;refine aB (w5 (bz.h_ K).eI (m:=om j i) (by grind[dU]) (24+(gO j i).aL) b2 ⟨s.2.2.1,by omega⟩) ?_;rintro v cQ ⟨dd,rfl,cd,N⟩;have f:=E.new N;refine aG.aV dd ⟨rfl,⟨ai.aj f F,ai.aj f d⟩,?_⟩;rintro dp dm bV bl;have a0:ai cQ dm:=by rw[bl];exact hF _ _
   have bM:=bz.h_ K;have Y:=bM.h_ N;have U:=ai.aj f F;have l:=ai.aj f d;refine⟨⟨ai.aj a0 U,ai.aj a0 l⟩,bP.mC bM.kN bM.new N cd (by omega) bV bl λap G cS cY D O=>?_⟩;obtain⟨cB,a5,_⟩:=Y.kN.ex;have off:∀ {b:Nat} {cs:ax} {T:bY},T≠cP->av cQ b cs T->¬ aP aW b:=λbN bO bA=>by obtain⟨bD,C⟩:=gN a5 bA;exact C.ne bO (λe=>bN e.symm) rfl
   have cn:=D.aj U (off (by decide) U);have H:=D.aj l (off (by decide) l);have a':dv w0 cS aI tb r m j V (0,0):=Y.eI.aA D λk a=>by have:=Y.kN.g0 k a;have:=g.new.size;have hu:=h.new.size;have:=h.le;exact⟨by omega,λe=>off (by decide) Y.eI.aj (e▸a)⟩
   have I:aX cS jS 3 pb n hz (oF ((iy j ds i).map Prod.snd)).flatten:=Y.tk.aA D λk a e=>by
    obtain⟨cs,C⟩:=gN Y.tk a
    grind
   refine⟨⟨cn,H⟩,du.aV (gO j i) ⟨bX H rfl,?_⟩⟩;rintro cU X b0 L;obtain⟨B,c⟩:=bo b0 L;have B:av X cU (gO j i).cells jS:=B;clear L;obtain⟨inf,b7,cj,ba,cZ⟩:=fV (T:=jS) (z:=du.val ⟨0,0,false⟩) (n:=3) (m:=24) (by kernel_rfl);refine qW (cells:=du.cells) (sz:=3) du.len du.single Tryz.underlying306 b7 cj (by rw[ba];rfl) ba (by decide) (by grind) (aX.new c I) (l2:=[gO j i]) (m:=1) (fj B rfl) rfl (by omega) λbC ad cr cV bK cW=>?_
   have a8:iy j ds (i+1)=iy j ds i++[(uN j ds i,gO j i)]:=by rw[Cc,show uc j ds i=[(uN j ds i,gO j i)] from bh ah]
   have cb:∀ {b:Nat} {cs:ax} {T:bY},T≠jS->av X b cs T->¬ aP pb b:=λbN bO a=>by obtain⟨bD,C⟩:=gN (aX.new c I) a;exact C.ne bO (λe=>bN e.symm) rfl
   have t:=a'.bH c;have hle:=h.le;have c9:=h.new.size;have da:=O.size;refine bA p.symm cr ap (n+1) G bC ad _ ⟨t.aA bK λk a=>⟨by have:=h.g0 k a;omega,λe=>cb (by decide) t.aj (e▸a)⟩,(O.new c).trans bK λk cA e=>by have:=h.g0 k e;omega,?_,?_,λk a=>?_,hle⟩ (by omega)
   ·rw[a8,kY];have ae:bP u X ap (n+1) G ((iy j ds i).map Prod.fst++[uN j ds i]):=cY.new c;obtain⟨cp,ca,_⟩:=ae.ex;refine ae.BI (λx Z=>?_) bK λk a e=>?_
    ·grind[Nv]
    grind[gN]
   ·rw[a8,kY];exact cV
   ·rcases cW k a with e | e
    ·exact h.g0 k e
    ·have:=O.size;have:=c.size;omega
  ·refine bA p.symm z aW n pc pb hz _ ?_ (by omega);rw[Cc,show uc j ds i=[] from aQ b5,kV];exact h
end
section
theorem Mu {r:c_}{m:aS}{j:bL}{V:eU}{ds:ck}{raw:List bV}(bM:ds.length=j.v.mem.length * (dg j).length)
  (bN:bl u jD (oF (dg j)).flatten) (aR:bl w0 dJ (gv raw).flatten) (N:gT A w0 raw ds) (cn:i<=ds.length) {n pc:Nat} (B:oT w0 u z aI tb r m j V aW n pc pb hz (iy j ds i)) (aQ:n<=i) (aC:ax)
  (ab:∀ env w,jx .ret env w=dE prog hs R .ret env w)
  (L:i<ds.length->ka j ds i=true->∀ Y ch,ai z Y->ao (λk=>k=aI) Y ch->dv w0 ch aI tb r m j V (11,0)->R (.bool false) ch)
  (aP:i<ds.length->ka j ds i=false->∀ ch aW n pc pb hz aC,oT w0 u ch aI tb r m j V aW n pc pb hz (iy j ds (i+1))->n<=i+1->jx .normal (rq ⟨aI,0,none⟩ jD (dg j).length k5 aW n pc pb n hz dJ ds.length dc ds.length (i+1:Nat) aC) ch)
  (P:i=ds.length->∀ aC,jx (.exit 4) (x4 ⟨aI,0,none⟩ aW n pc pb n hz aC) z) :
  Go.bJ.W prog (sub (bu hs) [1,1,1,1,1,1,1,1,0,1,0,0]) (rq ⟨aI,0,none⟩ jD (dg j).length k5 aW n pc pb n hz dJ ds.length dc ds.length i aC) jx z:=by
 have aX:=B.eI;obtain⟨af,bP⟩:=Cg j;have b0:=aX.cg.mem;have a0:raw.length=ds.length:=N.1;have bA:ds.length<=10:=by
  grind[dg,Nat.mul_le_mul]
 refine hG (fn:=hs) (R:=R) ab ?_;rw[lm];have F:=B.eI.new;refine bb (λQ=>?_) (λbT=>P (by omega) _);have E:i<ds.length:=by omega
 obtain⟨d,bx⟩:∃ d,raw[i]?=some d:=⟨_,b2 (by omega)⟩;obtain⟨x,b8⟩:∃ x,ds[i]?=some x:=⟨_,b2 E⟩;have M:=N.2 i d x bx b8;have O:di ds i=ed x:=by grind[di]
 refine eQ (cells:=bV.cells) bV.len (by omega) (aR.new F) bx rfl a0.symm λb o ae _=>bV.aV d ⟨ae,?_⟩
 refine io (vs:=d.cells) rfl (bV.single _) λb1 Y bH a' aH=>?_
 rintro K U;have S:ai Y K:=by rw[U];exact cR _
 clear U;have f:=aH.new S;have bC:i % (dg j).length<(dg j).length:=Nat.mod_lt _ af;have ag:(dg j)[i % (dg j).length]?=some (gO j i):=by
  grind[gO,List.getElem?_eq_getElem]
 have a8:Int.tmod (i:Int) ((dg j).length:Int)=((i % (dg j).length:Nat):Int):=rfl;have ba:=ai.aj S a';refine⟨λy=>ai K y,ao.refl _ _,rfl,by omega,?_⟩;rw[a8];refine lg (cells:=du.cells) du.len (by omega) (bN.new (B.new.new f)) ag rfl rfl λcj ct bK=>du.aV (gO j i) ⟨λy J=>k_ (i:=0) λq v al=>by grind,bV.aV d ⟨λy J=>bX (ai.aj J ba) rfl,?_⟩⟩
 have D:∀ {y:an},ai K y->a5 196 [d.val] y λv w'=>v=.int .u64 (di ds i)/\ai y w':=by intro y J;rw[O];exact r9 (M.aA (ao.cm (F.new (f.new J))) λ_ _ e=>e)
 have hu:cy (di ds i):=by
  rw[O];unfold ed;cases hw:x.words with
  |nil=>exact hL
  |cons a l=>exact M.wf a (by grind)
 have one:∀ {y:an} {X:Nat},ai K y->av y X (gO j i).cells jS->K.heap.size<=X->∀ (flag:Bool),flag=ka j ds i->∀ (aC:ax),Go.bJ.W prog (sub (bu hs) [1,1,1,1,1,1,1,1,0,1,0,0,1,1,0,0,1,1,0,1]) (rr ⟨aI,0,none⟩ jD (dg j).length k5 aW n pc pb n hz i ⟨X,0,none⟩ (di ds i) dJ ds.length dc ds.length i flag aC) (aO 6 (aO 5 (aZ (λenv w=>Go.bJ.W prog (sub (bu hs) [1,1,1,1,1,1,1,1,0,1,0,0,1,1,1]) env (bO prog hs R jx) w) (bO prog hs R jx)))) y:=by
  intro y X J ad br flag H aC;have cp:=f.size;have b7:=B.new.size;refine Nw (B.h_ (f.new J)) (by omega) aQ ad ⟨by omega,λaG=>?_⟩ hu H (λ_ _=>rfl) (λbq ch ah T=>L E bq y ch (f.new J) ah T) (λbq ch b_ n' cb ca bD b9 bz b3=>?_)
  ·have:=B.tk.lt aG;omega
  ·refine rY (rY (fa ?_));rw[UB,bI (x:=(i:Int)+1) (by omega) (by omega)]
   grind
 have bm:∀ {t:Bool},(gO j i).exact=true->t=decide (di ds i>(gO j i).least)->t=ka j ds i:=λhe cr=>by grind[ka]
 have bk:(gO j i).exact=false->false=ka j ds i:=λhe=>by grind[ka]
 refine⟨?_,?_⟩
 ·refine aB (D (ao.refl _ _)) ?_;rintro v cd ⟨rfl,g⟩;refine⟨_,rfl,g,?_⟩;rintro Z bh G C;obtain⟨s,h⟩:=bo G C;have s:av bh Z rL.cells jS:=s;clear C;have b5:=g.size;refine⟨g.new h,dY (vs:=(gO j i).cells) s rfl (du.single _) λbj c I=>?_⟩;have p:ai K bj:=(g.new h).trans I λk Q e=>by omega
  exact⟨p,_,c.cell (i:=2) rfl,gW (λhe=>⟨_,c.cell (i:=1) rfl,one p c (by omega) _ (bm he rfl) _⟩) (λhe=>one p c (by omega) _ (bk he) _)⟩
 ·rintro Z bh G C;obtain⟨s,h⟩:=bo G C;have s:av bh Z rL.cells jS:=s;clear C;refine⟨h,?_⟩;refine aB (D h) ?_;rintro v cd ⟨rfl,g⟩;refine⟨_,rfl,h.new g,dY (vs:=(gO j i).cells) (ai.aj g s) rfl (du.single _) λbj c I=>?_⟩;have p:ai K bj:=(h.new g).trans I λk Q e=>by omega
  exact⟨p,_,c.cell (i:=2) rfl,gW (λhe=>⟨_,c.cell (i:=1) rfl,one p c (by omega) _ (bm he rfl) _⟩) (λhe=>one p c (by omega) _ (bk he) _)⟩
theorem L0 {r:c_}{m:aS}{j:bL}{V:eU}(d:dv w0 u aI tb r m j V (0,0)){ds:ck}{raw:List bV}(o:ds.length=j.v.mem.length * (dg j).length)
  (J:bl u jD (oF (dg j)).flatten) (E:bl w0 dJ (gv raw).flatten) (p:gT A w0 raw ds) (aC:ax) {QX:Exit->ax->aJ} (l:∀ env w,QX .ret env w=dE prog hs R .ret env w)
  (a:(List.range ds.length).any (ka j ds)=true->∀ z ch,ai u z->ao (λk=>k=aI) z ch->dv w0 ch aI tb r m j V (11,0)->R (.bool false) ch)
  (h:(List.range ds.length).any (ka j ds)=false->∀ ch aW n pc pb hz aC,oT w0 u ch aI tb r m j V aW n pc pb hz (iy j ds ds.length)->n<=ds.length->
   Go.bJ.W prog (sub (bu hs) [1,1,1,1,1,1,1,1,1]) (x4 ⟨aI,0,none⟩ aW n pc pb n hz aC) QX ch) :
  cz prog (.loop (sub (bu hs) [1,1,1,1,1,1,1,1,0,1,0,0])) (rq ⟨aI,0,none⟩ jD (dg j).length k5 none 0 0 none 0 0 dJ ds.length dc ds.length 0 aC)
   (aO 4 (aZ (λenv w=>Go.bJ.W prog (sub (bu hs) [1,1,1,1,1,1,1,1,1]) env QX w) QX)) u:=by
 refine cZ mix (λq env z=>∃ (i:Nat) (aW:ak) (n pc:Nat) (pb:ak) (hz:Nat) (aC:ax),q=ds.length-i/\i<=ds.length/\env=rq ⟨aI,0,none⟩ jD (dg j).length k5 aW n pc pb n hz dJ ds.length dc ds.length i aC/\oT w0 u z aI tb r m j V aW n pc pb hz (iy j ds i)/\n<=i/\∀ k,k<i->ka j ds k=false) ds.length
  ⟨0,none,0,0,none,0,_,by omega,by omega,rfl,⟨d,ao.refl _ _,bP.nil _ _,aX.nil _ _ _,λk h=>cp h ou,d.new.size⟩,by omega,λk h=>by omega⟩ ?_
 rintro q env z ⟨i,aW,n,pc,pb,hz,aC,rfl,K,rfl,b,D,s⟩;refine Mu o J E p K b D aC (R:=R) l (λy I L ch C x e=>a ?_ L ch (b.new.new C) x e) (λy I ch F n' H G g f c B=>?_) (λt f=>?_)
 ·grind
 ·exact fa ⟨ds.length - (i+1),by omega,i+1,F,n',H,G,g,f,rfl,by omega,rfl,c,B,λk h=>by
   grind⟩
 ·subst t;refine qQ (qq (fa ?_))
  grind
end
section
theorem eK.vY {bB:an}{r:c_}{m:aS}{j:bL}{V g:eU}{R a:cd}(i:eK A w0 u aI tb B r m j V R bQ)(b:R.ask=none)(p:R.dH=false)(h:ao (λk=>k=aI) bQ bB)(c:dv w0 bB aI tb r m j g a.out)(n:a.a2=R.a2)(q:a.ask=none)(s:a.dH=false):eK A w0 u aI tb B r m j g a bB:=by
 obtain⟨l,d,o,f⟩:=i.gz;rw[b]at f;refine⟨i.aA.trans h λk _ e=>.inr e,c,l,?_,by grind,?_⟩
 ·rw[n];exact d.aA h λe=>c.ne e.symm
 grind
theorem eK.seq {b:Nat}{r:c_}{m:aS}{j:bL}{V:eU}{R:cd}(c:ao (λk=>k=tb\/k=aI) u bQ)(d:ai bQ z)(a:eK A w0 z aI tb b r m j V R cl)(l:B<=b):eK A w0 u aI tb B r m j V R cl:=by
 refine⟨(c.new d).trans a.aA λ_ _ e=>e,a.eI,?_⟩;obtain⟨f,g,h,i⟩:=a.gz
 grind
def IK:bc:=⟨0,0,0,0,0,0,[],0,0⟩
def m8 (p:bc×du)(a:Int):Bool:=decide (a≠p.1.old) && (decide (a≠p.2.least) && (p.2.exact || decide (a<p.2.least)))
def n_ (L:List (bc×du))(ds:ck)(i:Nat):Bool:=m8 (L.getD i (IK,rL)) (di ds i)
theorem L1 {r:c_}{m:aS}{j:bL}{V:eU}{L:List (bc×du)}{ds:ck}{raw:List bV}(b7:L.length=ds.length)(bz:ds.length<=100)
  (S:dv w0 z aI tb r m j V (0,0)) (a':bl w0 dJ (gv raw).flatten) (N:gT A w0 raw ds) (b8:i<=ds.length) {n pc:Nat} (b9:n=L.length) (bj:bP u z aW n pc (L.map Prod.fst)) (aQ:bl z pb (oF (L.map Prod.snd)).flatten) (aC:ax)
  (af:∀ env w,jx .ret env w=dE prog hs R .ret env w)
  (M:i<ds.length->n_ L ds i=true->∀ Z ch,ai z Z->ao (λk=>k=aI) Z ch->dv w0 ch aI tb r m j V (11,0)->R (.bool false) ch)
  (J:i<ds.length->n_ L ds i=false->∀ ch aC,ai z ch->jx .normal (s6 ⟨aI,0,none⟩ aW n pc pb n hz dJ ds.length dc ds.length (i+1:Nat) aC) ch)
  (O:i=ds.length->∀ aC,jx (.exit 7) (Bw aC) z) :
  Go.bJ.W prog (sub (bu hs) [1,1,1,1,1,1,1,1,1,1,1,0,1,0,0]) (s6 ⟨aI,0,none⟩ aW n pc pb n hz dJ ds.length dc ds.length i aC) jx z:=by
 have ba:raw.length=ds.length:=N.1;refine hG (fn:=hs) (R:=R) af ?_;rw[Un];have F:=S.new;refine bb (λP=>?_) (λbK=>O (by omega) _);have C:i<ds.length:=by omega
 obtain⟨d,bx⟩:∃ d,raw[i]?=some d:=⟨_,b2 (by omega)⟩;obtain⟨x,bT⟩:∃ x,ds[i]?=some x:=⟨_,b2 C⟩;obtain⟨p,b_⟩:∃ p,L[i]?=some p:=⟨_,b2 (by omega)⟩;have bM:L.getD i (IK,rL)=p:=by grind
 have aH:=N.2 i d x bx bT;have aP:di ds i=ed x:=by grind[di]
 obtain⟨t,G,X⟩:=bj.ex;have bA:t.length=L.length:=by rw[X.1,gR]
 obtain⟨v,al⟩:∃ v,t[i]?=some v:=⟨_,b2 (by omega)⟩;have bh:=X.2 i v p.1 al (by grind);have U:v.Old=p.1.old:=by rw[bh.eq];rfl
 refine eQ (cells:=bV.cells) bV.len (by omega) (a'.new F) bx rfl ba.symm λb o ah _=>bV.aV d ⟨ah,?_⟩
 refine io (vs:=d.cells) rfl (bV.single _) λb1 Z bC bk a8=>?_
 rintro K Y;have Q:ai Z K:=by rw[Y];exact cR _
 clear Y;have a:=a8.new Q;have bm:=ai.aj Q bk;refine⟨λy=>ai K y,ao.refl _ _,bV.aV d ⟨λy c=>bX (ai.aj c bm) rfl,?_⟩⟩;have aR:(L.map Prod.snd)[i]?=some p.2:=by grind
 refine lg (cells:=du.cells) du.len (by omega) (aQ.new a) aR rfl (by grind) λb3 ca bD=>du.aV p.2 ⟨λy c=>k_ (i:=0) λq v al=>by grind,?_⟩
 have E:∀ {y:an},ai K y->a5 196 [d.val] y λv w'=>v=.int .u64 (di ds i)/\ai y w':=by intro y c;rw[aP];exact r9 (aH.aA (ao.cm (F.new (a.new c))) λ_ _ e=>e)
 have one:∀ {y:an},ai K y->∀ (flag:Bool),flag=n_ L ds i->∀ (aC:ax),Go.bJ.W prog (sub (bu hs) [1,1,1,1,1,1,1,1,1,1,1,0,1,0,0,1,1,0,0,1,1,1]) (n9 ⟨aI,0,none⟩ aW n pc pb n hz dJ ds.length dc ds.length i flag aC) (aO 8 (aZ (λenv w=>Go.bJ.W prog (sub (bu hs) [1,1,1,1,1,1,1,1,1,1,1,0,1,0,0,1,1,1]) env (bO prog hs R jx) w) (bO prog hs R jx))) y:=by
  intro y c flag B aC;refine hG (fn:=hs) (R:=R) (λ_ _=>rfl) ?_;rw[UC];cases flag with
  |true=>refine hc rfl ?_;refine aB (wE (S.bH (a.new c)) 11) ?_;rintro v ch ⟨rfl,a0,T⟩;exact⟨_,rfl,M C B.symm y ch (a.new c) a0 T⟩
  |false=>refine dG rfl (rY (fa ?_));rw[UE,bI (x:=(i:Int)+1) (by omega) (by omega)];exact J C B.symm y _ (a.new c)
 have b5:n_ L ds i=m8 p (di ds i):=by grind[n_]
 refine⟨?_,?_⟩
 ·refine aB (E (ao.refl _ _)) ?_;rintro v b0 ⟨rfl,f⟩;refine⟨_,rfl,f,?_⟩;rintro ab bq H D;obtain⟨h,g⟩:=bo H D;have h:av bq ab rL.cells jS:=h;clear D;have bN:=f.size;refine⟨f.new g,dY (vs:=p.2.cells) h rfl (du.single _) λbr s I=>?_⟩;have c:ai K br:=(f.new g).trans I λk P e=>by omega
  refine eQ (cells:=aG.cells) aG.len (by omega) (l:=t) (aX.new (a.new c) G).rd al rfl (by omega) λb o _ ag=>⟨_,ag 4 _ rfl,?_⟩
  rw[U];refine d8 (λad=>⟨_,s.cell (i:=1) rfl,d8 (λae=>⟨_,s.cell (i:=2) rfl,gW (λhe=>one c _ ?_ _) (λhe=>⟨_,s.cell (i:=1) rfl,one c _ ?_ _⟩)⟩) (λae=>one c _ ?_ _)⟩) (λad=>one c _ ?_ _)
  ·grind[m8,decide_eq_true]
  ·grind[m8,decide_eq_true]
  ·grind[m8,decide_eq_true,decide_eq_false]
  grind[m8,decide_eq_false]
 ·rintro ab bq H D;obtain⟨h,g⟩:=bo H D;have h:av bq ab rL.cells jS:=h;clear D;refine⟨g,?_⟩;refine aB (E g) ?_;rintro v b0 ⟨rfl,f⟩;refine⟨_,rfl,g.new f,dY (vs:=p.2.cells) (ai.aj f h) rfl (du.single _) λbr s I=>?_⟩;have c:ai K br:=(g.new f).trans I λk P e=>by omega
  refine eQ (cells:=aG.cells) aG.len (by omega) (l:=t) (aX.new (a.new c) G).rd al rfl (by omega) λb o _ ag=>⟨_,ag 4 _ rfl,?_⟩
  rw[U];refine d8 (λad=>⟨_,s.cell (i:=1) rfl,d8 (λae=>⟨_,s.cell (i:=2) rfl,gW (λhe=>one c _ ?_ _) (λhe=>⟨_,s.cell (i:=1) rfl,one c _ ?_ _⟩)⟩) (λae=>one c _ ?_ _)⟩) (λad=>one c _ ?_ _)
  ·grind[m8,decide_eq_true]
  ·grind[m8,decide_eq_true]
  ·grind[m8,decide_eq_true,decide_eq_false]
  grind[m8,decide_eq_false]
end
section
def pJ (L:List (bc×du))(a:cd):cd:=
 if a.ok=false then a else if(List.range a.done.length).any (n_ L a.done)=true then⟨false,[],(11,0),a.a2,none,false⟩else⟨true,[],(0,0),a.a2,none,false⟩
def uO (j:bL)(a:cd):cd:=
 if a.ok=false then a else if(List.range a.done.length).any (ka j a.done)=true then⟨false,[],(11,0),a.a2,none,false⟩
 else pJ (iy j a.done a.done.length) (bN a.a2 ((iy j a.done a.done.length).map Prod.fst))
def hX (j:bL)(G:a3):cd:=uO j (bN G (hW j))
theorem C9 (j:bL):(hW j).length=j.v.mem.length*(dg j).length:=by
 unfold hW;induction j.v.mem with
 |nil=>simp
 |cons a l b=>grind
theorem uL {r:c_}{m:aS}{j:bL}{V:eU}{T:eM}{G:a3}(aH:dv w0 u aI tb r m j V (0,0))(bz:eV A w0 u tb T G)(aX:gF T) :
  a5 179 [ptr aI] u (lX A w0 u aI tb r m j V (hX j G)):=by
 refine ba Tryz.func179 ?_;rw[ptr,VW];have bM:=aH.aj.lt;have bV:=bz.aj.lt;have b5:=aH.cg.mem;obtain⟨b0,b2⟩:=Cg j;have bC:j.v.mem.length*(dg j).length<=10:=by
  grind[dg,Nat.mul_le_mul]
 refine aB (PB aH) ?_;rintro v bQ ⟨jD,k5,rfl,J,bA,b3⟩;have B:=aH.bH J;have bq:=J.size;refine⟨_,_,_,rfl,_,_,_,B.aj.cell (i:=4) rfl,?_⟩;refine Nu B bA _ λcl aW n pc aC K br=>?_
 refine hG (fn:=hs) (R:=lX A w0 u aI tb r m j V (hX j G)) (λ_ _=>rfl) ?_;rw[Ux];have E:=J.new K;refine aB (oq (B.bH K) (bz.new E) aX B.new (by omega) (by omega) br (by grind[C9])) ?_;rintro v bw ⟨dJ,dc,raw,rfl,d,bo,o,C⟩;have ab:=d.aA;have d:eK A w0 u aI tb u.heap.size r m j V (bN G (hW j)) bw:=eK.of d E bq;have o:gT A w0 raw (bN G (hW j)).done:=o;have C:(bN G (hW j)).ok=true->raw.length=(hW j).length:=C;refine⟨_,_,_,_,rfl,eF (λg=>?_) (λx=>?_)⟩
 ·have g:(bN G (hW j)).ok=false:=g;have s:hX j G=bN G (hW j):=bh g
  grind
 have x:(bN G (hW j)).ok=true:=x;obtain ⟨bI,W,M⟩:=pr x;have f:=d.eI;rw [bI] at f;have s:hX j G=if (List.range (bN G (hW j)).done.length).any (ka j (bN G (hW j)).done)=true then ⟨false,[],(11,0),(bN G (hW j)).a2,none,false⟩
   else pJ (iy j (bN G (hW j)).done (bN G (hW j)).done.length) (bN (bN G (hW j)).a2 ((iy j (bN G (hW j)).done (bN G (hW j)).done.length).map Prod.fst)):=by
  unfold hX uO
  grind
 have S:(bN G (hW j)).done.length=j.v.mem.length*(dg j).length:=by rw[<-o.1,C x,C9]
 have D:=bA.new K;have aZ:bl bw jD (oF (dg j)).flatten:=D.aA ab (hv D λk X e=>by grind);rw[o.1];generalize bN G (hW j)=p at d o S s W M f;clear C x bI;refine L0 f S aZ bo o _ (R:=lX A w0 u aI tb r m j V (hX j G)) (QX:=bO prog hs (lX A w0 u aI tb r m j V (hX j G)) (dE prog hs (lX A w0 u aI tb r m j V (hX j G)))) (λ_ _=>rfl) (λQ z ch c bb af=>?_) (λQ z pb fm aG bX bx b8 a bD=>?_)
 ·rw[s,bh Q];exact⟨rfl,d.vY W M ((ao.cm c).trans bb λ_ _ e=>e) af rfl rfl rfl⟩
 rw[aQ (by grind)]at s;generalize iy j p.done p.done.length=L at a s;rw[UA];obtain⟨b9,O,ah,P⟩:=d.gz;rw[W]at P;rw[M]at ah;have bK:=f.aj.lt;have bT:=O.aj.lt;have aV:fm=L.length:=by have:=a.kN.len;grind
 refine aB (oq a.eI (O.new a.new) ⟨P,ah⟩ f.new (by omega) (by omega) a.kN (by grind)) ?_;rintro v aO ⟨aP,aR,H,rfl,h,ad,b,t⟩;have F:=h.aA;have h:eK A w0 u aI tb u.heap.size r m j V (bN p.a2 (L.map Prod.fst)) aO:=eK.seq d.aA a.new h (by have:=d.aA.size;omega);have b:gT A w0 H (bN p.a2 (L.map Prod.fst)).done:=b;have t:(bN p.a2 (L.map Prod.fst)).ok=true->H.length=(L.map Prod.fst).length:=t;refine⟨_,_,_,_,rfl,eF (λg=>?_) (λx=>?_)⟩
 ·have g:(bN p.a2 (L.map Prod.fst)).ok=false:=g;rw[s,show pJ L (bN p.a2 (L.map Prod.fst))=bN p.a2 (L.map Prod.fst) from bh g]
  grind
 have x:(bN p.a2 (L.map Prod.fst)).ok=true:=x;obtain⟨bm,I,w⟩:=pr x;have l:=h.eI;rw[bm]at l;have N:L.length=(bN p.a2 (L.map Prod.fst)).done.length:=by rw[<-b.1,t x,gR]
 unfold pJ at s;rw[aQ (by grind)]at s;rw[b.1];generalize bN p.a2 (L.map Prod.fst)=y at h b s I w l N;have ag:bP bw aO pb fm aG (L.map Prod.fst):=a.kN.aA F λk e=>by grind
 have U:bl aO bX (oF (L.map Prod.snd)).flatten:=a.tk.rd.aA F (hv a.tk.rd λk X e=>by have:=a.g0 k X;grind);refine cZ mix (λq env z=>∃ (i:Nat) (aC:ax),q=y.done.length-i/\i<=y.done.length/\env=s6 ⟨aI,0,none⟩ pb fm aG bX fm bx aP y.done.length aR y.done.length i aC/\ai aO z/\∀ k,k<i->n_ L y.done k=false) y.done.length
  ⟨0,_,by omega,by omega,rfl,ao.refl _ _,λk W=>by omega⟩ ?_
 rintro q env z ⟨i,aC,rfl,b7,rfl,c,a0⟩;refine L1 N (by omega) (l.bH c) ad b b7 aV (ag.new c) (U.new c) aC (R:=lX A w0 u aI tb r m j V (hX j G)) (λ_ _=>rfl) (λY Q b_ ch Z a' ae=>?_) (λY Q ch av bj=>?_) (λa8 av=>?_)
 ·rw[s,bh (Cp.2 ⟨i,gS.2 Y,Q⟩)];exact⟨rfl,h.vY I w ((ao.cm (c.new Z)).trans a' λ_ _ e=>e) ae rfl rfl rfl⟩
 ·exact fa ⟨y.done.length - (i+1),by omega,i+1,av,rfl,by omega,rfl,c.new bj,λk W=>by
   grind⟩
 ·subst a8;refine qQ (qq (fa ?_));rw [UD];have bk:¬ (List.range y.done.length).any (n_ L y.done)=true:=by
   grind
  rw[s,aQ bk];exact⟨rfl,h.vY I w (ao.cm c) (l.bH c) rfl rfl rfl⟩
end
section
theorem bP.two {bw:an}{v1 v2:aG}{h l:bc}{b:Nat}(d:ai u bQ)(f:cT (λk=>k<u.heap.size) bQ v1 h)(a:ai bQ cl)(g:cT (λk=>k<bQ.heap.size) cl v2 l)(r:b=cl.heap.size)(aq:av bw b (v1.cells++v2.cells) cP)(j:ai cl bw):bP u bw (some ⟨b,0,none⟩) 2 2 [h,l]:=by
 have p:=d.size;have q:=a.size;have n:∀ k,aP (some ⟨b,0,none⟩) k->k=b:=λk i=>by
  obtain⟨o,s⟩:=i
  grind
 refine⟨⟨[v1,v2],⟨by simp[dS];rfl,.inr ⟨b,v1.cells++v2.cells,rfl,aq,db 2,by decide,by grind[List.length_append,aG.len],by grind[dS,List.take_of_length_le,List.length_append,aG.len]⟩⟩,et.app (r1:=[v1]) (v1:=[h]) (et.one ?_) (et.one ?_)⟩,rfl,λk i=>by grind⟩
 ·exact f.aA (ao.cm (a.new j)) λk c e=>by
   grind
 ·exact g.aA (ao.cm j) λk c e=>by
   grind
noncomputable abbrev jB:Func:=f181
def oU (j:bL)(bj:aS):a_:=[nK j bj (24+j.dead) 1,nK j bj (fN j.dead) 120]
def gl (j:bL)(m:aS):a_:=(j.v.mem.map (oU j)).flatten++[nK j m (32+j.dead) 1]
section
variable {A:a4}{w0 u:an}{aI tb:Nat}{r:c_}{m:aS}{j:bL}{V:eU}
theorem PC (A:dv w0 u aI tb r m j V o)(aC:ax)
  (a5:∀ bB aW n pc aC,ai u bB->n=2*j.v.mem.length->bP u bB aW n pc ((j.v.mem.map (oU j)).flatten)->Go.bJ.W prog (sub (bu jB) [1,1,1]) (Bx ⟨aI,0,none⟩ aW n pc aC) (dE prog jB R) bB) :
  cz prog (.loop (sub (bu jB) [1,1,0,1,0,0])) (vn ⟨aI,0,none⟩ none 0 0 r.View.f7 r.View.fq r.View.gB r.View.fq 0 aC)
   (aO 0 (aZ (λenv w=>Go.bJ.W prog (sub (bu jB) [1,1,1]) env (dE prog jB R) w) (dE prog jB R))) u:=by
 obtain ⟨b3,d⟩:=A.bp.view;have hlen:=d.len;have bK:=A.cg.mem;have O:=A.cg.dead;have bC:=A.bp.dead;have a8:=A.aj.lt;refine cZ mix (λq env z=>∃ (i:Nat) (aW:ak) (pc:Nat) (aC:ax),q=j.v.mem.length - i/\i<=j.v.mem.length/\env=vn ⟨aI,0,none⟩ aW (2 * i) pc r.View.f7 r.View.fq r.View.gB r.View.fq i aC/\ai u z/\
   bP u z aW (2*i) pc ((j.v.mem.take i).map (oU j)).flatten) j.v.mem.length
  ⟨0,none,0,_,by omega,by omega,rfl,ao.refl _ _,bP.nil _ _⟩ ?_
 rintro q env z ⟨i,aW,pc,aC,rfl,b7,rfl,s,X⟩;refine hG (fn:=jB) (R:=R) (λ_ _=>rfl) ?_;rw[T_,hlen];have Q:=A.new.new s;refine bb (λbM=>?_) (λbD=>?_)
 ·obtain⟨bj,hm⟩:∃ bj,j.v.mem[i]?=some bj:=⟨_,b2 (by omega)⟩;have bN:=A.cg.eX bj (b9 hm);refine eQ (cells:=aS.cells) aS.len (by omega) (d.rd.new Q) hm rfl rfl λb a' ab _=>aS.aV bj ⟨ab,?_⟩
  refine io (vs:=bj.cells) rfl (aS.single _) λbm bV bA aX ag=>?_
  rintro bh Y;have S:ai bV bh:=by rw[Y];exact cR _
  clear Y;have B:=ag.new S;have H:=ai.aj S aX;have M:=A.bH (s.new B);refine⟨λy=>av y bm bj.cells eL/\jy r tb m j aI y,⟨H,_,_,M.aj⟩,aS.aV bj ⟨λy f=>bX f.1 rfl,r.e7,λy f=>by obtain⟨_,bl,a',f⟩:=f;exact f.cell (i:=5) rfl,aS.aV bj ⟨λy f=>bX f.1 rfl,r.e7,λy f=>by obtain⟨_,bl,a',f⟩:=f;exact f.cell (i:=5) rfl,?_⟩⟩⟩;rw[bC];refine aB (Al bh O) ?_;rintro v b_ ⟨rfl,h⟩;have E:=M.bH h;refine⟨_,rfl,⟨ai.aj h H,_,_,E.aj⟩,?_⟩;refine aB (wi E (m:=bj) (by grind[dU]) (24+j.dead) 1) ?_;rintro v b0 ⟨v1,rfl,aH,l⟩;have g:=E.bH l;have I:=ai.aj (h.new l) H;refine aG.aV v1 ⟨rfl,⟨I,_,_,g.aj⟩,?_⟩;refine aB (Ab b0 O) ?_;rintro v ca ⟨rfl,rfl⟩;refine⟨_,rfl,⟨I,_,_,g.aj⟩,?_⟩;refine aB (wi g (m:=bj) (by grind[dU]) (fN j.dead) 120) ?_;rintro v cb ⟨v2,rfl,aQ,p⟩;have N:=g.bH p;have t:=ai.aj p I;refine aG.aV v2 ⟨rfl,⟨t,_,_,N.aj⟩,?_⟩;rintro bq bk L Z;obtain⟨J,a⟩:=bo L Z;have J:av bk bq (v1.cells++v2.cells) cP:=J;clear Z;have aR:=bP.two l aH p aQ L J a;have C:=(l.new p).new a;have c:=B.new h;have F:=N.bH a;have D:=X.new (c.new C);obtain⟨ba,U,_⟩:=D.ex;have bO:=c.size;have bT:=s.size;refine⟨⟨ai.aj a t,_,_,F.aj⟩,bP.vg D (s.new (c.new C)) aR (λk af=>by obtain⟨a0,G,_⟩:=X.ex;have:=G.lt af;omega) (by omega) (by omega) λap K b8 b5 P ah=>?_⟩;have off:∀ {b:Nat} {cs:ax} {T:bY},T≠cP->av bk b cs T->¬ aP aW b:=λbx bz a5=>by obtain⟨br,ad⟩:=gN U a5;exact ad.ne bz (λe=>bx e.symm) rfl
  refine⟨⟨P.aj (ai.aj a t) (off (by decide) (ai.aj a t)),_,_,P.aj F.aj (off (by decide) F.aj)⟩,fa ?_⟩;rw[bI (x:=(i:Int)+1) (by omega) (by omega)];refine⟨j.v.mem.length-(i+1),by omega,i+1,ap,K,_,rfl,by omega,by rw[<-hlen,show 2*(i+1)=2*i+2 by omega];rfl,ah,?_⟩
  grind[oU,List.take_add_one]
 ·have ae:i=j.v.mem.length:=by omega
  subst ae;refine qQ (qq (fa ?_))
  grind
end
end
section
structure n5 where
 a:ak
 n:Nat
 c:Nat
def nx (s:n5):ax:=[.slice s.a s.n s.c]
def tO (d:bV):n5:=⟨d.Words,d.dh,d.c8⟩
abbrev xG:bY:=94
structure oV (w0 u z:an)(aI tb:Nat)(r:c_)(m:aS)(j:bL)(fX:ak)(lc:Nat)(qB:List n5):Prop where
 eI:dv w0 z aI tb r m j ⟨fX,qB.length,lc,0⟩ (0,0)
 aA:ao (λk=>k=aI) u z
 own:aX z xG 1 fX qB.length lc (qB.map nx).flatten
 g0:∀ k,aP fX k->u.heap.size<=k
 le:w0.heap.size<=u.heap.size
theorem oV.h_ {r:c_}{m:aS}{j:bL}{a:List n5}(h:oV w0 u z aI tb r m j fX lc a)(b:ai z ch):oV w0 u ch aI tb r m j fX lc a:=
 ⟨h.eI.bH b,h.aA.new b,aX.new b h.own,h.g0,h.le⟩
theorem PD {r:c_}{m:aS}{j:bL}{c:List n5}(h:oV w0 u z aI tb r m j fX lc c)(Z:aI<u.heap.size)(Y:c.length<=100){raw:List bV}{bg:Nat}(N:bl w0 dJ (gv raw).flatten)(I:bg=raw.length){d:bV}(aQ:raw[2 * c.length+1]?=some d)
  {t:Int} (dQ:∀ env w,Q .ret env w=dE prog jB R .ret env w)
  (aR:∀ ch U S aC,oV w0 u ch aI tb r m j U S (c++[tO d])->Q .normal (Bz ⟨aI,0,none⟩ dJ bg dc flag t c.length aC) ch) :
  Go.bJ.W prog (sub (bu jB) [1,1,1,1,1,1,1,0,1,0,0,1,1,0,0,1,1]) (vo ⟨aI,0,none⟩ dJ bg dc flag c.length t c.length aC) Q z:=by
 refine hG (fn:=jB) (R:=R) dQ ?_;rw[Vf];rintro aX D;have L:ai z aX:=by rw[D];exact cR _
 clear D;have X:=h.h_ L;refine⟨λy=>dv w0 y aI tb r m j ⟨fX,c.length,lc,0⟩ (0,0),X.eI,fX,c.length,lc,λy O=>O.aj.cell (i:=13) rfl,?_⟩;refine lg (cells:=bV.cells) (sz:=2) bV.len (by omega) N aQ (by rw[bI (x:=2*(c.length:Int)) (by omega) (by omega),bI (by omega) (by omega)];omega) I λb o aO=>⟨d.Words,d.dh,d.c8,λy O=>aO y O.new 1 _ rfl,?_⟩
 rintro ad ab G E;obtain⟨s,M⟩:=bo G E;have s:av ab ad (nx (tO d)) xG:=s;clear E;have l:=X.h_ M;obtain⟨inf,J,P,C,aH⟩:=fV (T:=xG) (z:=.slice none 0 0) (n:=1) (m:=24) (by kernel_rfl);refine⟨l.eI,qW (cells:=nx) (sz:=1) (λ_=>rfl) (λx v al=>by simp[nx]at al;subst al;rfl) Tryz.underlying218 J P (by rw[C];rfl) C (by decide) (by grind) l.own (l2:=[tO d]) (m:=1) (fj s rfl) rfl (by omega) λap g aZ af V ag=>?_⟩;have off:∀ {b:Nat} {cs:ax} {T:bY},T≠xG->av ab b cs T->¬ aP fX b:=λah aB f=>by obtain⟨ae,H⟩:=gN l.own f;exact H.ne aB (λe=>ah e.symm) rfl
 have hle:=h.le;have a:=l.eI.aA V λk f=>⟨by have:=h.g0 k f;omega,λe=>off (by decide) l.eI.aj (e▸f)⟩
 refine⟨a,⟨_,a.aj.cell (i:=13) rfl⟩,a.aj.frozen,?_⟩;rintro F q;have p:ao (λk=>k=aI) aZ F:=by rw[q];exact e4 _ _ _ _
 have aG:av F aI (qw r tb m (gY j.inc j.aL) ⟨ap,c.length+1,g,0⟩ (0,0)) o4:=by rw[q];exact a.aj.setCell (i:=13) _
 clear q;have aV:=l.aA.size;have A:∀ k,aP ap k->u.heap.size<=k:=λk f=>by
  rcases ag k f with e | e
  ·exact h.g0 k e
  ·omega
 have B:ao (λk=>k=aI) u F:=(l.aA.trans V λk K e=>by have:=h.g0 k e;omega).trans p λ_ _ e=>e
 refine aR F ap g _ ⟨⟨by grind,a.bp,a.cg,a.mem,a.new.trans p λk K e=>by have:=a.qv;omega,a.qv,a.lv,a.ne⟩,B,?_,A,hle⟩;rw[fF];exact af.aA p λk f e=>by grind
end
section
def ny (j:bL)(ds:ck)(n:Nat):Bool:=(List.range n).all λi=>di ds (2*i) == j.fJ
theorem Kn (j:bL)(ds:ck)(n:Nat):ny j ds (n+1)=(ny j ds n && (di ds (2*n) == j.fJ)):=by
 grind[ny,List.range_succ]
theorem Nx {r:c_}{m:aS}{j:bL}{a:List n5}(h:oV w0 u z aI tb r m j fX lc a)(p:aI<u.heap.size){c:Nat}(Q:c<=100)(af:a.length<=c){ds:ck}{raw:List bV}(s:bl w0 dJ (gv raw).flatten)(k:gT A w0 raw ds)(U:ds.length=2 * c+1)
  (f:flag=ny j ds a.length) (aC:ax) (G:∀ env w,jx .ret env w=dE prog jB R .ret env w)
  (N:a.length<c->∀ d,raw[2*a.length+1]?=some d->∀ ch E D aC,oV w0 u ch aI tb r m j E D (a++[tO d])->jx .normal (s7 ⟨aI,0,none⟩ dJ ds.length dc (ny j ds (a.length+1)) c (a.length+1:Nat) aC) ch)
  (l:a.length=c->∀ aC,jx (.exit 2) (By ⟨aI,0,none⟩ dJ ds.length dc flag aC) z) :
  Go.bJ.W prog (sub (bu jB) [1,1,1,1,1,1,1,0,1,0,0]) (s7 ⟨aI,0,none⟩ dJ ds.length dc flag c a.length aC) jx z:=by
 have t:raw.length=ds.length:=k.1;refine hG (fn:=jB) (R:=R) G ?_;rw[T'];refine bb (λY=>?_) (λX=>l (by omega) _);have S:a.length<c:=by omega
 obtain⟨d,O⟩:∃ d,raw[2*a.length]?=some d:=⟨_,b2 (by omega)⟩;obtain⟨x,Z⟩:∃ x,ds[2*a.length]?=some x:=⟨_,b2 (by omega)⟩;obtain⟨d1,H⟩:∃ d1,raw[2*a.length+1]?=some d1:=⟨_,b2 (by omega)⟩;have I:=k.2 _ d x O Z;have K:di ds (2*a.length)=ed x:=by grind[di]
 rintro ad B;have M:ai z ad:=by rw[B];exact cR _
 clear B;have g:=h.h_ M;have one:∀ {y:an},oV w0 u y aI tb r m j fX lc a->∀ (F:Bool),F=ny j ds (a.length+1)->∀ (aC:ax),Go.bJ.W prog (sub (bu jB) [1,1,1,1,1,1,1,0,1,0,0,1,1,0,0,1,1]) (vo ⟨aI,0,none⟩ dJ ds.length dc F a.length c a.length aC) (aO 3 (aZ (λenv w=>Go.bJ.W prog (sub (bu jB) [1,1,1,1,1,1,1,0,1,0,0,1,1,1]) env (bO prog jB R jx) w) (bO prog jB R jx))) y:=by
  intro y C F L aC;refine PD C p (by omega) s t.symm H (R:=R) (λ_ _=>rfl) (λch E D ab ae=>?_);refine rY (fa ?_);rw[U1,bI (x:=(a.length:Int)+1) (by omega) (by omega),L]
  grind
 have J:=h.eI.bp.fJ;have V:=h.eI.cg.fJ;refine⟨λy=>dv w0 y aI tb r m j ⟨fX,a.length,lc,0⟩ (0,0),g.eI,gW (λP=>?_) (λP=>one g false (by grind[Kn]) _)⟩;refine lg (cells:=bV.cells) (sz:=2) bV.len (by omega) s O (by rw[bI (x:=2*(a.length:Int)) (by omega) (by omega)];omega) t.symm λb o T=>bV.aV d ⟨λy C=>k_ (i:=0) λq v al=>by simpa using T y C.new q v al,r.gA,λy C=>C.aj.cell (i:=6) rfl,?_⟩
 refine aB (r9 (I.aA (ao.cm g.eI.new) λ_ _ e=>e)) ?_;rintro v ag ⟨rfl,n⟩;refine⟨_,rfl,(g.h_ n).eI,one (g.h_ n) _ ?_ _⟩;rw[Kn,<-f,P,K,J,kP (x:=j.fJ) (by omega) (by omega),zw]
end
section
theorem L2:∀ {l:ck},hY l=0->∀ d ∈ l,d.code=0:=λ{l}=>by
 induction l with
 |nil=>grind
 |cons x l a=>
  grind[hY]
theorem Sr {vs:a_}{ds:ck}(h:k6 vs ds=true)(b:hY ds=0){v:bc}{d:cN}(al:vs[i]?=some v)(a:ds[i]?=some d):(d.words.length:Int)=v.v.hi:=by
 have c:=L2 b d (b9 a);unfold k6 at h;rw[gL,jt]at h;have hm:(v,d) ∈ vs.zip ds:=b9 (i:=i) (Ct.2 ⟨al,a⟩);have:=h.2 _ hm;unfold ti at this
 grind
theorem Gt {G:a3}{vs:a_}(h:(bN G vs).ok=true){v:bc}{d:cN}(al:vs[i]?=some v)(b:(bN G vs).done[i]?=some d):(d.words.length:Int)=v.v.hi:=by
 have f:vs.length≠0:=by grind
 unfold bN cA at h b;split at h
 ·cases h
 rename_i c;split at h
 ·cases h
 rename_i a;rw[aQ c,aQ a]at b;have a:hY (batch G vs).done=0:=by grind
 unfold batch at c a b;rw[aQ f]at c a b;cases G with
 |nil=>grind
 |cons e G'=>
  simp only at c a b;split at c
  ·rename_i g;rw[bh g]at a b
   grind[Sr]
  grind
def sG (j:bL)(ds:ck):eE:=(List.range j.v.mem.length).map λi=>(ds.getD (2*i+1) ⟨0,[]⟩).words
def uf (j:bL)(ds:ck):Int:=di ds (2*j.v.mem.length)
def sR (j:bL)(m:aS)(R:cd):cd:=
 if R.ok=false then R else if ny j R.done j.v.mem.length=true then⟨true,[],(0,0),R.a2,none,false⟩
 else if(h8 j m R.a2).ok=false then h8 j m R.a2 else⟨false,[],(11,0),(h8 j m R.a2).a2,none,false⟩
def gm (j:bL)(m:aS)(G:a3):cd:=sR j m (bN G (gl j m))
structure lI (w0 w:an)(aI tb:Nat)(V:eU)(Ls:eE):Prop where
 ex:∃ qB:List n5,bl w V.fX (qB.map nx).flatten/\V.kD=qB.length/\qB.length=Ls.length/\∀ (i:Nat) (s:n5) (L:a7),qB[i]?=some s->Ls[i]?=some L->sO w0 s.a s.n s.c L
 off:∀ k,aP V.fX k->k≠tb/\k≠aI
theorem lI.new {w0 w w':an}{aI tb:Nat}{V:eU}{Ls:eE}(h:lI w0 w aI tb V Ls)(g:ai w w'):lI w0 w' aI tb V Ls:=by obtain⟨⟨a,b,c,d,e⟩,f⟩:=h;exact⟨⟨a,b.new g,c,d,e⟩,f⟩
theorem lI.aA {w0 w w':an}{aI tb:Nat}{V:eU}{Ls:eE}(h:lI w0 w aI tb V Ls){M:a4}(i:ao M w w')(l:∀ k,M k->k=tb\/k=aI):lI w0 w' aI tb V Ls:=by
 obtain⟨⟨a,b,c,d,f⟩,g⟩:=h;refine⟨⟨a,b.aA i (hv b λk j e=>?_),c,d,f⟩,g⟩
 grind
theorem C_ (j:bL)(m:aS):(gl j m).length=2*j.v.mem.length+1:=by
 unfold gl;rw[fF];have:((j.v.mem.map (oU j)).flatten).length=2*j.v.mem.length:=by
  induction j.v.mem with
  |nil=>rfl
  |cons a l b=>grind[List.flatten_cons,List.length_append,oU]
 grind
theorem Da {j:bL}{m:aS}(d:i<j.v.mem.length):∃ bj,(gl j m)[2*i+1]?=some (nK j bj (fN j.dead) 120):=by
 have key:∀ (l:List aS) (i:Nat),i<l.length->∃ bj,((l.map (oU j)).flatten)[2*i+1]?=some (nK j bj (fN j.dead) 120):=by
  intro l;induction l with
  |nil=>grind
  |cons a l b=>
   intro i h;rw[iI,lD];cases i with
   |zero=>exact⟨a,rfl⟩
   |succ i=>
    obtain⟨bj,c⟩:=b i (by grind)
    grind[List.getElem?_append_right,oU,List.length_cons,List.length_nil]
 grind[gl,List.getElem?_append_left,cS]
end
section
abbrev AH (A:a4)(w0 u:an)(aI tb:Nat)(r:c_)(m:aS)(j:bL)(G:a3)(v:bf)(bB:an):Prop:=
 v=.bool (gm j m G).ok/\∃ a,eK A w0 u aI tb u.heap.size r m j a (gm j m G) bB/\((gm j m G).ok=true->lI w0 bB aI tb a (sG j (bN G (gl j m)).done)/\a.clock=uf j (bN G (gl j m)).done)
theorem Ss {r:c_}{m:aS}{j:bL}{T:eM}{G:a3}(w:dv w0 u aI tb r m j ⟨none,0,0,0⟩ (0,0))(cY:eV A w0 u tb T G)(b_:gF T) :
  a5 181 [ptr aI] u (AH A w0 u aI tb r m j G):=by
 refine ba Tryz.func181 ?_;rw[ptr,WQ];have c5:=w.aj.lt;have c9:=cY.aj.lt;have dn:=w.cg.mem;have cj:=w.cg.dead;have aH:=w.bp.dead;refine⟨_,_,_,w.aj.cell (i:=4) rfl,?_⟩;refine PC w _ λcl aW n pc aC a8 dr W=>?_
 refine hG (fn:=jB) (R:=AH A w0 u aI tb r m j G) (λ_ _=>rfl) ?_;rw[Ve];rintro w1 br;have p:ai cl w1:=by rw[br];exact cR _
 clear br;have a0:=a8.new p;have ag:=w.bH a0;refine⟨jy r tb m j aI,⟨_,_,ag.aj⟩,aS.aV m ⟨λy Z=>by obtain⟨de,dy,Z⟩:=Z;exact bX Z rfl,r.e7,λy Z=>by obtain⟨de,dy,Z⟩:=Z;exact Z.cell (i:=5) rfl,?_⟩⟩;rw[aH];refine aB (wZ w1 cj) ?_;rintro v dL ⟨rfl,a'⟩;have F:=ag.bH a';refine⟨_,rfl,⟨_,_,F.aj⟩,?_⟩;refine aB (wi F w.eX (32+j.dead) 1) ?_;rintro v dA ⟨dz,rfl,cQ,H⟩;refine aG.aV dz ⟨rfl,⟨_,_,(F.bH H).aj⟩,?_⟩;rintro b1 dB b5 bx;have cG:ai dA dB:=by rw[bx];exact hF _ _
 have b8:=F.bH H;have C:=p.new a';refine⟨⟨_,_,(b8.bH cG).aj⟩,bP.mC (W.new C) (a8.new C) H cQ (by omega) b5 bx λap ae dd bM dp D=>?_⟩;obtain⟨da,c3,_⟩:=(W.new (C.new H)).ex;have dm:=W.g0;have off:¬ aP aW aI:=λad=>by grind
 have ah:dv w0 dd aI tb r m j ⟨none,0,0,0⟩ (0,0):=w.bH D;have dx:(j.v.mem.map (oU j)).flatten++[nK j m (32+j.dead) 1]=gl j m:=rfl;have bM:bP u dd ap (n+1) ae (gl j m):=bM;refine⟨⟨_,_,ah.aj⟩,?_⟩;refine aB (oq ah (cY.new D) b_ w.new (by omega) (by omega) bM (by grind[C_])) ?_;rintro v cV ⟨dJ,dc,raw,rfl,K,bk,g,bm⟩;have K:eK A w0 u aI tb u.heap.size r m j ⟨none,0,0,0⟩ (bN G (gl j m)) cV:=K.of D (db _);have g:gT A w0 raw (bN G (gl j m)).done:=g;have bm:(bN G (gl j m)).ok=true->raw.length=(gl j m).length:=bm;refine⟨_,_,_,_,rfl,eF (λS=>?_) (λbq=>?_)⟩
 ·have S:(bN G (gl j m)).ok=false:=S;have E:gm j m G=bN G (gl j m):=bh S
  grind
 have bq:(bN G (gl j m)).ok=true:=bq;obtain⟨dt,ad,Y⟩:=pr bq;have f:=K.eI;rw[dt]at f;have hlen:raw.length=2*j.v.mem.length+1:=by grind[C_]
 have J:∀ i,i<j.v.mem.length->∀ x,(bN G (gl j m)).done[2*i+1]?=some x->x.words.length=120:=by intro i cn x cS;obtain⟨bj,cF⟩:=Da (m:=m) cn;have:=Gt bq cF cS;have e:(nK j bj (fN j.dead) 120).v.hi=120:=rfl;omega
 have E:gm j m G=if ny j (bN G (gl j m)).done j.v.mem.length=true then ⟨true,[],(0,0),(bN G (gl j m)).a2,none,false⟩
   else if(h8 j m (bN G (gl j m)).a2).ok=false then h8 j m (bN G (gl j m)).a2 else⟨false,[],(11,0),(h8 j m (bN G (gl j m)).a2).a2,none,false⟩:=by
  unfold gm sR
  grind
 obtain⟨dG,X⟩:=w.bp.view;have cB:=X.len;refine⟨_,_,_,f.aj.cell (i:=4) rfl,?_⟩;have Q:(bN G (gl j m)).done.length=2*j.v.mem.length+1:=by rw[<-g.1,hlen]
 rw[g.1,cB];show cz prog _ _ _ _;generalize bT:bN G (gl j m)=P at K g E J Q ad Y f bq;have bb:=f.aj.lt;have c7:=K.aA.size;refine cZ mix (λq env z=>∃ (c:List n5) (fX:ak) (lc:Nat) (aC:ax),q=j.v.mem.length-c.length/\c.length<=j.v.mem.length/\env=s7 ⟨aI,0,none⟩ dJ P.done.length dc (ny j P.done c.length) j.v.mem.length c.length aC/\oV w0 cV z aI tb r m j fX lc c/\∀ (k:Nat) (s:n5),c[k]?=some s->∃ d,raw[2*k+1]?=some d/\s=tO d) j.v.mem.length
  ⟨[],none,0,_,by simp,by simp,rfl,⟨f,ao.refl _ _,aX.nil _ _ _,λk ad=>cp ad ou,f.new.size⟩,λk s h=>by grind⟩ ?_
 rintro q env z ⟨c,fX,lc,aC,rfl,cn,rfl,l,cP⟩;refine Nx l bb (by omega) cn bk g Q rfl aC (R:=AH A w0 u aI tb r m j G) (λ_ _=>rfl) (λcA d aH ch cU cT bC aZ=>?_) (λcr bC=>?_)
 ·refine fa ⟨j.v.mem.length-(c.length+1),by omega,c++[tO d],cU,cT,bC,by simp,by grind,by grind,aZ,λk s dq=>?_⟩
  grind
 ·obtain⟨d,aH⟩:∃ d,raw[2*j.v.mem.length]?=some d:=⟨_,b2 (by omega)⟩;obtain⟨x,cS⟩:∃ x,P.done[2*j.v.mem.length]?=some x:=⟨_,b2 (by omega)⟩;have cb:=g.2 _ d x aH cS;have cd:uf j P.done=ed x:=by grind[uf,di]
  refine qQ (qq (fa ?_));rw[U0,cr];refine eQ (cells:=bV.cells) bV.len (by omega) (bk.new l.eI.new) aH (by rw[Q,bI (by omega) (by omega)];omega) g.1.symm λb o b9 _=>bV.aV d ⟨b9,?_⟩
  refine aB (r9 (cb.aA (ao.cm l.eI.new) λ_ _ e=>e)) ?_;rintro v dC ⟨rfl,p⟩;have a:=l.eI.bH p;refine⟨_,rfl,⟨_,a.aj.cell (i:=14) rfl⟩,a.aj.frozen,?_⟩;rintro bK ab;have U:ao (λk=>k=aI) dC bK:=by rw[ab];exact e4 _ _ _ _
  have b7:av bK aI (qw r tb m (gY j.inc j.aL) ⟨fX,c.length,lc,ed x⟩ (0,0)) o4:=by rw[ab];exact a.aj.setCell (i:=14) _
  clear ab;have M:dv w0 bK aI tb r m j ⟨fX,c.length,lc,ed x⟩ (0,0):=⟨b7,a.bp,a.cg,a.mem,a.new.trans U λk cA e=>by have:=a.qv;omega,a.qv,a.lv,a.ne⟩;have B:ao (λk=>k=aI) cV bK:=(l.aA.new p).trans U λ_ _ e=>e
  obtain⟨dK,b3,O,af⟩:=K.gz;rw[ad]at af;rw[Y]at O;have b0:=b3.aA B λe=>w.ne e.symm
  have aR:ao (λk=>k=tb\/k=aI) u bK:=K.aA.trans B λk _ e=>.inr e
  have bo:=aR.size;refine eF (λc2=>?_) (λc2=>?_)
  ·rw[aQ (by grind)]at E;refine aB (DJ M b0 ⟨af,O⟩) ?_;rintro v dE ⟨rfl,I⟩;have I:eK A w0 u aI tb u.heap.size r m j ⟨fX,c.length,lc,ed x⟩ (h8 j m P.a2) dE:=eK.seq aR (ao.refl _ _) I bo;refine⟨_,rfl,gW (λc4=>?_) (λc4=>?_)⟩
   ·obtain⟨cI,ct,bz⟩:=pr c4;have N:=I.eI;rw[show(h8 j m P.a2).out=(0,0) from cI]at N;rw[aQ (by grind)]at E;refine aB (wE N 11) ?_;rintro v dN ⟨rfl,cu,bl⟩;refine⟨_,rfl,by rw[E],_,by rw[E];exact I.vY ct bz cu bl rfl rfl rfl,λh=>?_⟩
    grind
   grind
  ·rw[bh c2]at E;refine⟨by rw[E],_,by rw[E];exact K.vY ad Y B M rfl rfl rfl,λ_=>?_⟩
   rw[bT];refine⟨⟨⟨c,?_,rfl,?_,?_⟩,?_⟩,cd.symm⟩
   ·exact(aX.new p l.own).rd.aA U (hv (aX.new p l.own).rd λk V e=>by have:=l.g0 k V;omega)
   ·grind[sG,List.length_map,List.length_range]
   ·intro i s L du dg;obtain⟨d1,ca,rfl⟩:=cP i s du;have aO:i<j.v.mem.length:=by grind
    obtain⟨bD,bA⟩:∃ bD,P.done[2*i+1]?=some bD:=⟨_,b2 (by omega)⟩;have t:=g.2 _ d1 bD ca bA;have bO:L=bD.words:=by
     unfold sG at dg
     grind
    rw[bO];have cW:=J i aO bD bA;have cy:=t.len;exact⟨t.rd,cy,t.cap,t.wf,by show d1.dh<=1000;omega⟩
   ·intro k V;have:=l.g0 k V
    grind
end
end Go.Proofs.YtmkljjbioomepaaGreat
