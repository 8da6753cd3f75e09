import Derived.Test.YtmkljjbioomepaaGreatf20
import Derived.Test.YtmkljjbioomepaaGreatProg
import Derived.Test.YtmkljjbioomepaaGreatf02
set_option linter.all false
set_option maxHeartbeats 4000000
set_option maxRecDepth 100000
namespace Go.Proofs.YtmkljjbioomepaaGreat
open Go.Proofs.Tryz Go.bd
variable {A:a6}{B lc n aN tb:Nat}{L:ba}{aX:fO}{R:bg}{a la:an}{lines seq:Int}{u bF w w0:aj}
section
def qk (j:bM)(seq:Int)(W:List aD)(L:ba):Bool:=pp L j.lines && xo (seq,W) (li L j.lines)
def y1 (j:bM)(seq:Int)(W:List aD)(aX:fO)(i:Nat):bu:=if qk j seq W (aX.getD i [])=true then[]else Ao j seq W (j.v.mem.getD i jL)
def nT (j:bM)(seq:Int)(W:List aD)(aX:fO)(n:Nat):bu:=((List.range n).map (y1 j seq W aX)).flatten
def lj (j:bM)(seq:Int)(W:List aD)(aX:fO)(G:bn):cq:=bQ G (nT j seq W aX j.v.mem.length)
theorem D6 (j:bM)(seq:Int)(W:List aD)(aX:fO)(n:Nat):nT j seq W aX (n+1)=nT j seq W aX n++y1 j seq W aX n:=by
 grind[nT,List.range_succ]
theorem wL {w':aj}{W:List aD}(h:fm w a n W){M:a6}(c:ao M w w')(b:∀ k,aP a k->¬ M k):fm w' a n W:=⟨h.rd.aC c (gF h.rd b),h.len,h.ej,h.u64⟩
abbrev IQ (R:bg)(N:au->aK)(Q:Exit->au->aK):Exit->au->aK:=aL 1 (aM (λenv w=>Go.bd.W prog (sub (ay iW) [1,1,1,0,1,0,0,1,1,1]) env (aV prog iW R (aM N Q)) w) (aV prog iW R (aM N Q)))
abbrev IP (R:bg)(N:au->aK)(Q:Exit->au->aK):Exit->au->aK:=aV prog iW R (aM (λenv w=>Go.bd.W prog (sub (ay iW) [1,1,1,0,1,0,0,1,1,0,0,1,1]) env (IQ R N Q) w) (IQ R N Q))
theorem Pr {r:c3}{m:aU}{j:bM}{V:eI}{T:eG}{G:bn}(aL:dt w0 u aN tb r m j V (0,0))(cv:eJ A w0 u tb T G)(b5:f8 T)(cX:k1 w0 u aN tb V aX)(cL:aX.length=j.v.mem.length){q:bX}{W:List aD}(a7:fm u q.de q.dj W)(bb:fJ q.Seq W 256=0)(cf:∀ x ∈ fe q.Seq W,ch x) :
  a9 247 [ptr aN,q.val] u (lC A w0 u aN tb r m j V (lj j q.Seq W aX G)):=by
 refine a' Tryz.func247 ?_;rw[ptr,V7];generalize bR:lC A w0 u aN tb r m j V (lj j q.Seq W aX G)=O;obtain⟨⟨cl,cd,ca,c6,aW⟩,cy⟩:=cX;have cA:=aL.ak.lt;have cG:=cv.ak.lt;have cQ:=aL.ct.mem;have S:=aL.job.lines;obtain⟨_,bh,_⟩:=jn bb;obtain⟨dm,J⟩:=aL.job.view;have hlen:=J.len;rintro b1 w1 bY br;obtain⟨M,B⟩:=bo bY br;have M:aq w1 b1 q.cells ep:=M;clear br;have b_:=B.size;have P:=aL.bK B;refine⟨_,M.cell (i:=0) rfl,?_⟩;refine aE (AP w1 ⟨bh.1,bh.2.1⟩) ?_;rintro v aP ⟨rfl,rfl⟩;refine⟨_,_,rfl,_,_,_,P.ak.cell (i:=4) rfl,?_⟩;refine cP mix (λk env z=>∃ (i n:Nat) (a2:an) (pc:Nat) (D:au),k=j.v.mem.length-i/\i<=j.v.mem.length/\n<=3*i/\env=uS ⟨aN,0,none⟩ ⟨b1,0,none⟩ (fZ q.Seq) a2 n pc r.View.fr r.View.e_ r.View.fS r.View.e_ i D/\ai aP z/\bO aP z a2 n pc (nT j q.Seq W aX i)) j.v.mem.length
  ⟨0,0,none,0,_,by omega,by omega,by omega,rfl,ao.refl _ _,bO.nil _ _⟩ ?_
 rintro k env z ⟨i,n,a2,pc,D,rfl,dp,cZ,rfl,l,U⟩;have af:=P.bK l;have aZ:=af.new;refine ha (fn:=iW) (R:=O) (λ_ _=>rfl) ?_;rw[T0,hlen];refine a5 (λag=>?_) (λcO=>?_)
 ·obtain⟨bD,hm⟩:∃ bD,j.v.mem[i]?=some bD:=⟨_,bW (by omega)⟩;obtain⟨s,cD⟩:∃ s,cl[i]?=some s:=⟨_,bW (by omega)⟩;obtain⟨L,cK⟩:∃ L,aX[i]?=some L:=⟨_,bW (by omega)⟩;have aR:=aW i s L cD cK;have cY:=aL.ct.eS bD (cu hm);have dn:aX.getD i []=L:=by grind
  have em:j.v.mem.getD i jL=bD:=by grind
  refine ei (cells:=aU.cells) aU.len (by omega) (J.rd.new aZ) hm rfl rfl λb da b4 _=>aU.aT bD ⟨b4,?_⟩
  refine dP (vs:=bD.cells) rfl (aU.single _) λcq df cM cj H=>?_
  obtain ⟨bf,bQ⟩:∃ bf:au->aK,∀ env w,bf env w=(∃ cH,cH<j.v.mem.length - i/\∃ (bG n:Nat) (a2:an) (pc:Nat) (D:au),cH=j.v.mem.length - bG/\bG<=j.v.mem.length/\n<=3 * bG/\env=uS ⟨aN,0,none⟩ ⟨b1,0,none⟩ (fZ q.Seq) a2 n pc r.View.fr r.View.e_ r.View.fS r.View.e_ bG D/\ai aP w/\bO aP w a2 n pc (nT j q.Seq W aX bG)):=⟨_,λ_ _=>rfl⟩;have bH:∀ {bL:aj} {X:an} {n' Y:Nat} (D:au),n'<=3 * (i+1)->ai aP bL->bO aP bL X n' Y (nT j q.Seq W aX (i+1))->∀ {N:au->aK} {jg:Exit->au->aK},(∀ env w,bf env w->N env w)->
    Go.bd.W prog (sub (ay iW) [1,1,1,0,1,0,0,1,1,1]) (lQ ⟨aN,0,none⟩ ⟨b1,0,none⟩ (fZ q.Seq) X n' Y r.View.fr j.v.mem.length r.View.fS (j.v.mem.length:Nat) i D) (aV prog iW O (aM N jg)) bL:=by
   intro bL X n' Y D ah a1 bk N jg ab;rw[Ut,bq (x:=(i:Int)+1) (by omega) (by omega)];exact cb (ab _ _ ((bQ _ _).mpr ⟨j.v.mem.length-(i+1),by omega,i+1,n',X,Y,_,rfl,by omega,ah,by rw[hlen];rfl,a1,bk⟩))
  rw[T1];refine ha (fn:=iW) (R:=O) (λ_ _=>rfl) ?_;rw[Up];rintro bN bs;have C:ai df bN:=by rw[bs];exact cC _
  clear bs;have F:=l.new (H.new C);have Q:=P.bK F;refine⟨λy=>ai bN y,ao.refl _ _,_,_,_,λy bx=>(ai.ak bx Q.ak).cell (i:=13) rfl,?_⟩;refine io (cells:=mM) (sz:=1) (λ_=>rfl) (by decide) (cd.new (B.new F)) cD rfl ca λb' da b6=>⟨s.a,s.n,s.c,λy bx=>by simpa using b6 y bx 0 _ rfl,r.et,λy bx=>(ai.ak bx Q.ak).cell (i:=2) rfl,?_⟩
  rw[S];have aB:nT j q.Seq W aX (i+1)=nT j q.Seq W aX i++(if qk j q.Seq W L=true then[]else Ao j q.Seq W bD):=by
   grind[D6,y1]
  have f4:∀ {y:aj} (t:Bool),t=qk j q.Seq W L->ai bN y->∀ (D:au) {N:au->aK} {jg:Exit->au->aK},(∀ env w,bf env w->N env w)->(∀ env w,jg .ret env w=cS prog iW O .ret env w)->
    Go.bd.W prog (sub (ay iW) [1,1,1,0,1,0,0,1,1,0,0,1,0,1,1]) (xR ⟨aN,0,none⟩ ⟨b1,0,none⟩ (fZ q.Seq) a2 n pc ⟨cq,0,none⟩ r.View.fr j.v.mem.length r.View.fS (j.v.mem.length:Nat) i t D) (IP O N jg) y:=by
   intro y t dr g D N jg ab ad;rw[Us];have cx:=F.new g;refine ek (λbV=>?_) (λbV=>?_)
   ·refine j9 (j0 (cb (bH _ (by omega) (l.new ((H.new C).new g)) ?_ ab)));rw[aB,bm (by grind),lE];exact U.new ((H.new C).new g)
   ·refine cb (ha (fn:=iW) (R:=O) (λ_ _=>rfl) ?_);have d:=(H.new C).new g;refine L0 (af.bK d) (ai.ak (l.new d) M) (ai.ak (C.new g) cj) (by grind[eb]) ((a7.new B).new (l.new d)) bb cf (AD _) (l.new d) (U.new d) (by omega) _ _ _ _ _ _ λbL ap cr c_ c9 ah=>?_
    refine k9 (cb (bH _ (by omega) ah ?_ ab))
    grind
  have f3:∀ {y:aj} {Z:Nat} {pb:an} {a0:Nat},aq y Z (bX.cells ⟨(li L j.lines).1,pb,(li L j.lines).2.length,a0⟩) ep->ai bN y->fm y pb (li L j.lines).2.length (li L j.lines).2->∀ (D:au) {N:au->aK} {jg:Exit->au->aK},(∀ env w,bf env w->N env w)->(∀ env w,jg .ret env w=cS prog iW O .ret env w)->
    Go.bd.W prog (sub (ay iW) [1,1,1,0,1,0,0,1,1,0,0,1,0,1]) (xP ⟨aN,0,none⟩ ⟨b1,0,none⟩ (fZ q.Seq) a2 n pc ⟨cq,0,none⟩ ⟨Z,0,none⟩ (pp L j.lines) r.View.fr j.v.mem.length r.View.fS (j.v.mem.length:Nat) i D) (IP O N jg) y:=by
   intro y Z pb a0 ck g a8 D N jg ab ad;rw[T2];refine ha (fn:=iW) (R:=O) (λ_ _=>rfl) ?_;rw[Ur];have d:=l.new ((H.new C).new g);refine ek (λbV=>?_) (λbV=>?_)
   ·refine bX.aT q ⟨bJ (ai.ak d M) rfl,bX.aT _ ⟨bJ ck rfl,?_⟩⟩;refine aE (RL ((a7.new B).new d) a8) ?_;rintro v dw ⟨rfl,f⟩;refine⟨_,rfl,cb (f4 _ ?_ (g.new f) _ ab ad)⟩
    grind[qk]
   ·refine cb (f4 _ ?_ g _ ab ad)
    grind[qk]
  refine⟨?_,?_⟩
  ·refine aE (Cg j.lines (aR.new Q.new)) ?_;rintro v dh ⟨pb,a0,rfl,o,I,a4⟩;refine bX.aT ⟨(li L j.lines).1,pb,(li L j.lines).2.length,a0⟩ ⟨_,rfl,o,?_⟩;rintro Z cm ae K;obtain⟨p,f⟩:=bo ae K;have p:aq cm Z iO.cells ep:=p;clear K;refine⟨o.new f,dI (vs:=bX.cells ⟨(li L j.lines).1,pb,(li L j.lines).2.length,a0⟩) p rfl (bX.single _) λdk aI E=>?_⟩;have c1:=o.size;exact f3 aI ((o.new f).trans E λk ag e=>by omega) (I.new (f.trans E λk ag e=>by omega)) _ (λenv w h=>by rw[bQ,hlen]at h;exact h) λ_ _=>rfl
  ·rintro Z cm ae K;obtain⟨p,f⟩:=bo ae K;have p:aq cm Z iO.cells ep:=p;clear K;refine⟨f,aE (Cg j.lines (aR.new (Q.bK f).new)) ?_⟩;rintro v dh ⟨pb,a0,rfl,o,I,a4⟩;have c5:=f.size;have cN:=p.lt;refine bX.aT ⟨(li L j.lines).1,pb,(li L j.lines).2.length,a0⟩ ⟨_,rfl,f.new o,dI (vs:=bX.cells ⟨(li L j.lines).1,pb,(li L j.lines).2.length,a0⟩) (ai.ak o p) rfl (bX.single _) λdk aI E=>?_⟩;exact f3 aI ((f.new o).trans E λk ag e=>by omega) (wL I E λk dq e=>by grind) _ (λenv w h=>by rw[bQ,hlen]at h;exact h) λ_ _=>rfl
 ·have b7:i=j.v.mem.length:=by omega
  subst b7;refine j9 (j0 (cb ?_));refine ha (fn:=iW) (R:=O) (λ_ _=>rfl) ?_;rw[Uq];refine aE (nM af (cv.new (B.new l)) b5 P.new (by omega) (by omega) U (by rw[<-U.len];omega)) ?_;rintro v dv ⟨dB,dc,raw,rfl,b9,_⟩;rw[<-bR];exact⟨_,_,_,_,rfl,rfl,b9.of (B.new l) b_⟩
end
section
noncomputable abbrev sN:Func:=f227
def vz (j:bM)(seq:Int)(bD:aU):bE:=lU j bD (32+j.dead) [seq]
def me (j:bM)(seq:Int)(l:List aD)(bD:aU):bu:=l.map (pN j bD)++[vz j seq bD]
def uo (j:bM)(seq:Int)(l:List aD):bu:=(j.v.mem.tail.map (me j seq l)).flatten
def xp (j:bM)(m:aU)(seq:Int)(l:List aD):bu:=vz j seq m::l.map (pN j m)
def q0 (j:bM)(m:aU)(seq:Int)(l:List aD)(B:cq):cq:=if B.ok=false then B else bQ B.a_ (xp j m seq l)
def pG (j:bM)(m:aU)(seq:Int)(W:List aD)(P:cq):cq:=
 if P.ok=false then P else if(gq j W P.done P.done.length).length=0 then P else q0 j m seq (gq j W P.done P.done.length) (bQ P.a_ (uo j seq (gq j W P.done P.done.length)))
def p_ (j:bM)(m:aU)(seq:Int)(W:List aD)(aX:fO)(G:bn):cq:=
 if(lj j seq W aX G).ok=false then lj j seq W aX G else pG j m seq W (fu j m W (lj j seq W aX G).a_)
theorem NR {j:bM}{W:List aD}{ds:cw}(h:n<=W.length):∀ p ∈ gq j W ds n,p ∈ W:=by
 intro p a;unfold gq at a;obtain⟨l,c,b⟩:=rJ.1 a
 grind[o6,List.getElem?_eq_getElem,List.getElem_mem]
theorem Rs (G:bn)(vs:bu):(bQ G vs).done.length<=vs.length:=by
 grind[bQ,cm,ri]
theorem Ps {j:bM}{m:aU}{W:List aD}{G:bn}:(fu j m W G).done.length<=W.length:=by have:=Rs G (W.map (uE j m));rwa [jc]at this
structure qB (l:List aD):Prop where
 wr:su l
 jX:∀ p ∈ l,∀ x ∈ hE p,ch x
theorem qB.sub {W l:List aD}(h:qB W)(hm:∀ p ∈ l,p ∈ W)(b:l.length<=W.length):qB l:=⟨⟨by have:=h.wr.ej;omega,λp a=>h.wr.ok p (hm p a)⟩,λp a=>h.jX p (hm p a)⟩
section
variable {A:a6}{w0 u:aj}{aN tb:Nat}{r:c3}{m:aU}{j:bM}{V:eI}{T:eG}{G:bn}
theorem Pu (bH:dt w0 u aN tb r m j V (0,0))(b9:eJ A w0 u tb T G)(a7:f8 T){w1:aj}(bq:ai w0 w1)(ab:tb<w1.heap.size)(X:aN<w1.heap.size)(aV:ai w1 u){a2:an}{pc:Nat}{vs:bu}(bo:bO w1 u a2 n pc vs)(bL:vs.length<=1000){l:List aD}(a8:fm u la l.length l)(b_:∀ k,aP la k->k≠tb/\k≠aN)(O:qB l)(cm:ch seq)(cu:au)
  (bG:∀ S v bF,S=q0 j m seq l (bQ G vs)->v=.bool S.ok->eE A w0 u aN tb w1.heap.size r m j V S bF->R v bF) :
  Go.bd.W prog (sub (ay sN) [1,1,1,1,1,1,1,1]) (BA ⟨aN,0,none⟩ la l.length lc (32+j.dead) seq a2 n pc cu) (cS prog sN R) u:=by
 rw[Uv];have N:=bH.eS;refine aE (nM bH b9 a7 bq ab X bo (by omega)) ?_;rintro v bp ⟨dB,dc,raw,rfl,w,_⟩;have w:eE A w0 u aN tb w1.heap.size r m j V (bQ G vs) bp:=w;refine⟨_,_,_,_,rfl,eu (λaB=>?_) (λbb=>?_)⟩
 ·have aB:(bQ G vs).ok=false:=aB;exact bG (bQ G vs) _ _ (bm aB).symm (by rw[aB]) w
 have bb:(bQ G vs).ok=true:=bb;obtain⟨aL,H,bs⟩:=oL bb;have b6:q0 j m seq l (bQ G vs)=bQ (bQ G vs).a_ (xp j m seq l):=aW (by grind);have Z:=w.eD;rw[aL]at Z;obtain⟨cH,aZ,C,L⟩:=w.fN;rw[H]at L;rw[bs]at C;have U:fm bp la l.length l:=wL a8 w.aC λk H e=>by grind
 rintro z ax;have h:ai bp z:=by rw[ax];exact cC _
 clear ax;have f:=Z.bK h;have J:=aZ.new h;have a':=U.new h;have cr:=h.size;have cb:=w.aC.size;have ad:=J.ak.lt;have Y:=f.ak.lt;have cq:=aV.size;have q:∀ {y:aj},ai z y->iS r tb m j aN y:=λcj=>⟨_,_,(f.bK cj).ak⟩
 refine⟨iS r tb m j aN,q (ao.refl _ _),aU.aT m ⟨λy D=>by obtain⟨bY,cx,D⟩:=D;exact bJ D rfl,aU.aT m ⟨λy D=>by obtain⟨bY,cx,D⟩:=D;exact bJ D rfl,?_⟩⟩⟩;rintro b1 cD a1 ah;obtain⟨aM,r1⟩:=m9 a1 ah;clear ah;refine⟨q aM,?_⟩;refine aE (v9 (f.bK aM) N (32+j.dead) r1 rfl (dr 1) (λe=>by cases e) (λx cL=>by grind) (show 1<=1000000 by decide)) ?_;rintro v cG ⟨bW,rfl,p,cv⟩;have d:=aM.new cv;have cl:=aM.size;have p:cQ (λk=>k<cD.heap.size) cG bW (vz j seq m):=p;have last:∀ {y:aj} {ap:an} {ac nn:Nat},ai z y->nn=1+l.length->bO z y ap nn ac (xp j m seq l)->Calls prog 221 #[ptr aN,.slice ap nn ac] y λe bX=>∃ (s:an) (cy sc:Nat) (b:Bool),e=.returned (.tuple #[.slice s cy sc,.bool b])/\iS r tb m j aN bX/\R (.bool b) bX:=by intro y ap ac nn g ck af;have cf:=O.wr.ej;refine aE (nM (f.bK g) (J.new g) ⟨L,C⟩ f.new ad Y af (by rw[<-af.len];omega)) ?_;rintro v cM ⟨dB,dc,raw,rfl,Q,_⟩;refine⟨_,_,_,_,rfl,⟨_,_,Q.eD.ak⟩,bG _ _ _ b6.symm rfl ?_⟩;exact eE.seq w.aC (h.new g) Q (by omega)
 have aq:∀ {y:aj} {K:Ending->aK},ai z y->(∀ (a:an) (c:Nat) bD,ai y bD->bO y bD a l.length c (l.map (pN j m))->K (.returned (.slice a l.length c)) bD)->Calls prog 249 #[ptr aN,m.val,.slice la l.length lc] y K:=by
  intro y K g cK;refine aE (D5 (f.bK g) N (a'.new g) O.wr O.jX) ?_
  grind
 refine aI.aT bW ⟨rfl,q d,?_,?_⟩
 ·rintro az cN a4 br;obtain⟨B,E⟩:=bO.box d (p.mono λk H=>by omega) a4 br;have i:=d.new E;refine⟨q i,aq i λa c cO F bh=>⟨_,_,_,rfl,q (i.new F),?_⟩⟩;refine bO.uQ (B.new F) (i.new F) bh (λk H=>by obtain⟨bV,aL,_⟩:=B.ex;exact aL.lt H) i.size (by have:=O.wr.ej;omega) λap I cP b5 ca P=>⟨q P,last P rfl b5⟩
 ·refine aq d λa c cX E bk=>⟨_,_,_,rfl,q (d.new E),?_⟩
  rintro b4 bx a5 ag;obtain⟨ae,F⟩:=bO.box (d.new E) ((p.aC (ao.b7 E) λ_ _ e=>e).mono λk H=>by omega) a5 ag;have bR:=d.size;have a9:km (λk=>k<z.heap.size\/aP (some ⟨b4,0,none⟩) k) bx a l.length (l.map (pN j m)):=(bk.h3 (M:=λk=>k<z.heap.size) λk _ e=>by omega).wide F λk cd e=>by
   rcases e with e | ⟨o,aL⟩
   ·exact e
   grind
  refine⟨q ((d.new E).new F),bO.GX ae ((d.new E).new F) a9 (by have:=O.wr.ej;omega) λap I cA aR bN t=>⟨q t,last t rfl aR⟩⟩
theorem Pv (s:dt w0 u aN tb r m j V (0,0))(a9:eJ A w0 u tb T G)(ab:f8 T){Q:an}{a4:Nat}(Y:bh u Q (gG j.v.mem.tail).flatten){l:List aD}(F:fm u la l.length l)(ad:∀ k,aP la k->k≠tb/\k≠aN)(N:qB l)(aV:ch seq)(O:au)
  (bs:∀ S v bF,S=q0 j m seq l (bQ G (uo j seq l))->v=.bool S.ok->eE A w0 u aN tb u.heap.size r m j V S bF->R v bF) :
  cj prog (.loop (sub (ay sN) [1,1,1,1,1,1,1,0,1,0,0])) (uT ⟨aN,0,none⟩ la l.length lc (32+j.dead) seq none 0 0 Q (j.v.mem.length-1) a4 ((j.v.mem.length-1:Nat):Int) 0 O)
   (aL 0 (aM (λenv w=>Go.bd.W prog (sub (ay sN) [1,1,1,1,1,1,1,1]) env (cS prog sN R) w) (cS prog sN R))) u:=by
 have bL:=s.ct.mem;have bX:=N.wr.ej;have H:=s.ak.lt;have I:=a9.ak.lt;have b7:j.v.mem.tail.length=j.v.mem.length-1:=zv;have f:∀ i,((j.v.mem.tail.take i).map (me j seq l)).flatten.length<=60+5:=by
  intro i;have bo:=AF (b:=l.length+1) ((j.v.mem.tail.take i).map (me j seq l)) λx b9=>by
   grind[me]
  rw[jc,zw]at bo;have cm:min i j.v.mem.tail.length*(l.length+1)<=5*13:=vO (by omega) (by omega);omega
 refine cP mix (λq env z=>∃ (i n:Nat) (a2:an) (pc:Nat) (O:au),q=j.v.mem.tail.length-i/\i<=j.v.mem.tail.length/\env=uT ⟨aN,0,none⟩ la l.length lc (32+j.dead) seq a2 n pc Q (j.v.mem.length-1) a4 ((j.v.mem.length-1:Nat):Int) i O/\ai u z/\bO u z a2 n pc (((j.v.mem.tail.take i).map (me j seq l)).flatten)) j.v.mem.tail.length
  ⟨0,0,none,0,_,rfl,by omega,rfl,ao.refl _ _,bO.nil _ _⟩ ?_
 rintro q env z ⟨i,n,a2,pc,O,rfl,cq,rfl,a,c⟩;rw[T3];have B:=s.bK a;have b6:=a.size;have aW:=c.len;have ag:=f i;refine a5 (λbV=>?_) (λbH=>?_)
 ·obtain⟨bD,hm⟩:∃ bD,j.v.mem.tail[i]?=some bD:=⟨_,bW (by omega)⟩;have bY:=s.ct.eS bD (tJ (cu hm));have y:eb bD.cB:=by grind[eb]
  have bm:((j.v.mem.tail.take (i+1)).map (me j seq l)).flatten=((j.v.mem.tail.take i).map (me j seq l)).flatten++me j seq l bD:=by
   grind[List.take_add_one]
  refine ei (cells:=aU.cells) aU.len (by omega) (Y.new a) hm rfl (by omega) λb o Z _=>aU.aT bD ⟨Z,?_⟩
  refine dP (vs:=bD.cells) rfl (aU.single _) λbb ca bG K d=>aU.aT bD ⟨bJ K rfl,?_⟩
  have b5:=d.size;rw[bq (x:=(i:Int)+1) (by omega) (by omega)];refine aE (D5 (B.bK d) y ((F.new a).new d) N.wr N.jX) ?_;rintro v cr ⟨g2,gc,rfl,g,aZ⟩;refine⟨_,_,_,rfl,?_⟩;have E:∀ k,aP a2 k->k<ca.heap.size:=λk bN=>by obtain⟨M,aR,_⟩:=c.ex;have:=aR.lt bN;omega
  refine bO.uQ ((c.new d).new g) ((a.new d).new g) aZ E (by omega) (by omega) λap a7 cb br af D=>?_
  have C:=s.bK D;have L:aq cb bb bD.cells eF:=af.ak (ai.ak g K) λe=>by obtain⟨M,aR,_⟩:=c.ex;have:=aR.lt e;omega
  refine aU.aT bD ⟨bJ L rfl,?_⟩;rintro cl cd X J;obtain⟨h,b_⟩:=m9 X J;clear J;refine aE (v9 (C.bK h) y (32+j.dead) b_ rfl (dr 1) (λe=>by cases e) (λx b9=>by grind) (show 1<=1000000 by decide)) ?_;rintro v cf ⟨a',rfl,p,ah⟩;have p:cQ (λk=>k<cd.heap.size) cf a' (vz j seq bD):=p;refine aI.aT a' ⟨rfl,?_⟩;rintro ck cv U a1;refine bO.lX (br.new h) (D.new h) ah p (by omega) U a1 λP t cx a8 bR aB=>?_
  have bk:((j.v.mem.tail.take i).map (me j seq l)).flatten++l.map (pN j bD)++[vz j seq bD]=((j.v.mem.tail.take (i+1)).map (me j seq l)).flatten:=by
   grind[me,List.append_assoc]
  rw[bk]at a8;exact⟨j.v.mem.tail.length-(i+1),by omega,i+1,_,P,t,_,rfl,by omega,rfl,aB,a8⟩
 ·have ae:i=j.v.mem.tail.length:=by omega
  subst ae;rw[jC]at c aW ag;refine Pu B (a9.new a) ab s.new I H a c (by omega) (F.new a) ad N aV _ λS v bF bx ar b4=>bs S v bF bx ar ?_
  exact b4.of a (dr _)
theorem L1 (M:dt w0 u aN tb r m j V (0,0))(bL:eJ A w0 u tb T G)(a8:f8 T)(bk:k1 w0 u aN tb V aX)(aZ:aX.length=j.v.mem.length){q:bX}{W:List aD}(ab:fm u q.de q.dj W)(I:∀ k,aP q.de k->k≠tb/\k≠aN)(ag:fJ q.Seq W 256=0)(bx:∀ x ∈ fe q.Seq W,ch x)(bO:qB W) :
  a9 227 [ptr aN,q.val] u (lC A w0 u aN tb r m j V (p_ j m q.Seq W aX G)):=by
 refine a' Tryz.func227 ?_;rw[ptr,V9];have bR:=M.ak.lt;have bW:=bL.ak.lt;have bh:=M.ct.dead;have b7:=M.job.dead;obtain⟨_,cb,_⟩:=jn ag;rintro b1 w1 a5 aB;obtain⟨t,b⟩:=bo a5 aB;have t:aq w1 b1 q.cells ep:=t;clear aB;have bs:=b.size;refine bX.aT q ⟨bJ t rfl,?_⟩;refine aE (Pr (M.bK b) (bL.new b) a8 (bk.new b) aZ (ab.new b) ag bx) ?_;rintro v cr ⟨rfl,g⟩;have h:=g.of (B':=u.heap.size) b bs;refine⟨_,rfl,eu (λbb=>?_) (λcd=>?_)⟩
 ·have e:p_ j m q.Seq W aX G=lj j q.Seq W aX G:=bm bb
  grind
 have aR:p_ j m q.Seq W aX G=pG j m q.Seq W (fu j m W (lj j q.Seq W aX G).a_):=aW (by grind);obtain⟨b_,U,bD⟩:=oL cd;have af:=g.eD;rw[show(lj j q.Seq W aX G).out=(0,0) from b_]at af;obtain⟨ck,a1,C,N⟩:=g.fN;rw[show(lj j q.Seq W aX G).ask=none from U]at N;rw[show(lj j q.Seq W aX G).dC=false from bD]at C;have c:b1≠tb/\b1≠aN:=by grind
 have F:=g.aC.ak t λe=>e.elim c.1 c.2
 have ad:=wL (ab.new b) g.aC λk U e=>e.elim (I k U).1 (I k U).2
 refine bX.aT q ⟨bJ F rfl,?_⟩;refine aE (Lp af a1 ⟨N,C⟩ ad I bO.wr) ?_;rintro v bY ⟨a2,pc,rfl,f,s,ca⟩;have o:=Ps (j:=j) (m:=m) (W:=W) (G:=(lj j q.Seq W aX G).a_);generalize b5:(lj j q.Seq W aX G).a_=a at f s aR o;have n:eE A w0 u aN tb u.heap.size r m j V (fu j m W a) bY:=eE.seq h.aC (ao.refl _ _) f (h.aC.size);refine⟨_,_,_,_,rfl,eu (λbb=>?_) (λah=>?_)⟩
 ·have e:pG j m q.Seq W (fu j m W a)=fu j m W a:=bm bb
  grind
 have aV:pG j m q.Seq W (fu j m W a)=if(gq j W (fu j m W a).done (fu j m W a).done.length).length=0 then fu j m W a else q0 j m q.Seq (gq j W (fu j m W a).done (fu j m W a).done.length) (bQ (fu j m W a).a_ (uo j q.Seq (gq j W (fu j m W a).done (fu j m W a).done.length))):=aW (by grind);have w:=oL ah;have Z:(fu j m W a).out=(0,0):=w.1;have X:(fu j m W a).ask=none:=w.2.1;have E:(fu j m W a).dC=false:=w.2.2;clear w;have R:(fu j m W a).done.length<=W.length:=o;generalize fu j m W a=P at f n s aR aV Z X E R ah;have B:=f.eD;rw[show P.out=(0,0) from Z]at B;obtain⟨cl,a4,D,O⟩:=f.fN;rw[show P.ask=none from X]at O;rw[show P.dC=false from E]at D;have ae:=NR (j:=j) (ds:=P.done) R;have br:=zU j W P.done P.done.length;generalize gq j W P.done P.done.length=l at s aV ae br;rw[aR,aV];refine dJ (λb4=>?_) (λb4=>?_)
 ·grind
 rw[aW (by omega)];have aL:=f.aC.ak F λe=>e.elim c.1 c.2
 rintro bH aI;have J:ai bY bH:=by rw[aI];exact cC _
 clear aI;have Q:=B.bK J;have aM:=ai.ak J aL;refine⟨λy=>ai bH y,ao.refl _ _,r.eX,λy bG=>(ai.ak bG Q.ak).cell (i:=5) rfl,q.Seq,λy bG=>(ai.ak bG aM).cell (i:=0) rfl,?_⟩;dsimp only;rw[b7,jx (x:=q.Seq) (by omega) (by omega)];refine aE (wH bH bh) ?_;rintro v cu ⟨rfl,K⟩;have H:=Q.bK K;obtain⟨cj,L⟩:=M.job.view;refine⟨_,rfl,K,c1.aT r.View ⟨bJ H.ak rfl,?_⟩⟩;refine aE (Dj (L.new H.new) M.ct.mem.1) ?_;rintro v cf ⟨cm,cq,rfl,Y,a7⟩;refine⟨_,_,_,rfl,?_⟩;have d:=(J.new K).new Y;have z:=bO.sub ae (by omega);have o:fm cf a2 l.length l:=⟨s.new d,rfl,by grind,λp bq=>(z.wr.ok p bq).2.2.2.2⟩;have b9:=h.aC.size;have bN:=n.aC.size;have bV:=d.size;refine Pv (H.bK Y) (a4.new d) ⟨O,D⟩ a7 o (λk U=>?_) z (seq:=q.Seq) ⟨by omega,by omega⟩ _ λS v bF b6 ar bq=>?_
 ·grind
 ·rw[<-b6];exact⟨ar,eE.seq n.aC d bq (by omega)⟩
end
end
section
structure A1 (R:Int×List aD):Prop where
 yX:fJ R.1 R.2 256=0
 pl:qB R.2
 u64:∀ x ∈ fe R.1 R.2,ch x
theorem Gj (h:fK L lines=true)(hu:∀ x ∈ L,ch x):A1 (c9 L lines):=by
 obtain⟨g,f,i⟩:=Pq h hu;obtain⟨_,k,_⟩:=jn g;refine⟨zG g,⟨f,i⟩,Fm (by grind[ch]) f.ej λp j=>?_⟩;obtain⟨a,b,c,d,e⟩:=f.ok p j
 grind[ch]
theorem Fz {lines:Int}{P:(Int×List aD)->Prop}:∀ (aX:fO) (b:(Int×List aD)×Bool),(∀ L ∈ aX,pp L lines=true->P (li L lines))->(b.2=true->P b.1)->(aX.foldl (mG lines) b).2=true->P (aX.foldl (mG lines) b).1
 | [],_,_,a=>a
 |L::aX,b,h,a=>by
  refine Fz aX _ (λc d=>h c (gm _ d)) ?_
  grind[mG,List.mem_cons_self]
theorem CV (h:pp L lines=true):fK L lines=true/\li L lines=c9 L lines:=by
 refine⟨?_,bm h⟩;unfold pp at h
 grind
theorem PV (hu:∀ L ∈ aX,∀ x ∈ L,ch x)(h:(it lines aX).2=true):A1 (it lines aX).1:=by
 refine Fz (P:=A1) aX _ (λL d a=>?_) (λe=>by cases e) h;obtain⟨b,c⟩:=CV a
 grind[Gj]
def hG (j:bM)(m:aU)(aX:fO)(G:bn):(Int×Int)×cq:=
 if(it j.lines aX).2=true then((2,(it j.lines aX).1.1),p_ j m (it j.lines aX).1.1 (it j.lines aX).1.2 aX G)
 else if fK (aX.getD 0 []) j.lines=true then((3,(c9 (aX.getD 0 []) j.lines).1),ux j m (c9 (aX.getD 0 []) j.lines).2 G)
 else((1,0),⟨true,[],(0,0),G,none,false⟩)
section
variable {A:a6}{w0 u:aj}{aN tb:Nat}{r:c3}{m:aU}{j:bM}{V:eI}{T:eG}{G:bn}
def Ap (A:a6)(w0 u:aj)(aN tb:Nat)(r:c3)(m:aU)(j:bM)(V:eI)(S:(Int×Int)×cq)(v:bl)(bF:aj):Prop:=
 v=.tuple #[.int .i64 S.1.1,.int .i64 S.1.2,.bool S.2.ok]/\eE A w0 u aN tb u.heap.size r m j V S.2 bF
theorem Pw (M:dt w0 u aN tb r m j V (0,0))(a8:eJ A w0 u tb T G)(F:f8 T)(X:k1 w0 u aN tb V aX)(bk:aX.length=j.v.mem.length) :
  a9 182 [ptr aN] u (Ap A w0 u aN tb r m j V (hG j m aX G)):=by
 refine a' Tryz.func182 ?_;rw[ptr,V8];have cb:=M.ak.lt;have ck:=a8.ak.lt;have cv:=M.ct.mem;have I:=M.job.lines;obtain⟨⟨a5,bQ,bO,cG,O⟩,b9⟩:=id X;have hu:∀ L ∈ aX,∀ x ∈ L,ch x:=λL bh=>by obtain⟨i,cx⟩:=eP.1 bh;obtain⟨s,bb⟩:∃ s,a5[i]?=some s:=⟨_,bW (by grind)⟩;exact(O i s L bb cx).u64
 refine aE (KJ M X (by omega)) ?_;rintro v w1 ⟨a2,pc,rfl,aB,aR,cy⟩;have cA:=aB.size;have B:=PV (lines:=j.lines) hu;have ae:(it j.lines aX).2=true->hG j m aX G=((2,(it j.lines aX).1.1),p_ j m (it j.lines aX).1.1 (it j.lines aX).1.2 aX G):=λh=>bm h
 have af:¬ (it j.lines aX).2=true->hG j m aX G=if fK (aX.getD 0 []) j.lines=true then((3,(c9 (aX.getD 0 []) j.lines).1),ux j m (c9 (aX.getD 0 []) j.lines).2 G)else((1,0),⟨true,[],(0,0),G,none,false⟩):=λh=>aW h
 generalize it j.lines aX=d at aR B ae af;refine bX.aT ⟨d.1.1,a2,d.1.2.length,pc⟩ ⟨_,rfl,?_⟩;refine dP (vs:=bX.cells ⟨d.1.1,a2,d.1.2.length,pc⟩) rfl (bX.single _) λb1 cl cu bR aI=>?_
 have P:=aB.new aI;refine ek (λag=>?_) (λag=>?_)
 ·rw[ae ag];have H:=B ag;rintro cL aZ;have Y:ai cl cL:=by rw[aZ];exact cC _
  clear aZ;have l:=P.new Y;have w:=ai.ak Y bR;refine⟨λy=>aq y b1 (bX.cells ⟨d.1.1,a2,d.1.2.length,pc⟩) ep,w,d.1.1,λy z=>z.cell (i:=0) rfl,bX.aT ⟨d.1.1,a2,d.1.2.length,pc⟩ ⟨λy z=>bJ z rfl,?_⟩⟩;refine aE (L1 (M.bK l) (a8.new l) F (X.new l) bk (q:=⟨d.1.1,a2,d.1.2.length,pc⟩) (aR.new (aI.new Y)) (λk H=>?_) H.yX H.u64 H.pl) ?_
  ·grind
  rintro v cQ ⟨rfl,aM⟩;exact⟨_,rfl,aM.aC.ak w λe=>by grind,rfl,aM.of l l.size⟩
 have ag:¬ d.2=true:=by grind
 rw[af ag];rintro cm a1;have bG:ai cl cm:=by rw[a1];exact cC _
 clear a1;have o:=P.new bG;have E:=M.bK o;obtain⟨s,bb⟩:∃ s,a5[0]?=some s:=⟨_,bW (by omega)⟩;obtain⟨L,bh⟩:∃ L,aX[0]?=some L:=⟨_,bW (by omega)⟩;have W:=O 0 s L bb bh;have cr:aX.getD 0 []=L:=by grind
 rw[cr];have bH:=Gj (L:=L) (lines:=j.lines) (hu:=W.u64);refine⟨λy=>ai cm y,ao.refl _ _,_,_,_,λy z=>(ai.ak z E.ak).cell (i:=13) rfl,?_⟩;refine io (cells:=mM) (sz:=1) (λ_=>rfl) (by decide) (bQ.new o) bb rfl bO λb' cP bs=>⟨s.a,s.n,s.c,λy z=>by simpa using bs y z 0 _ rfl,r.et,λy z=>(ai.ak z E.ak).cell (i:=2) rfl,?_⟩
 rw [I];have fin:∀ {y:aj} {az:Nat} {pb:an} {a0:Nat},ai u y->aq y az (bX.cells ⟨(c9 L j.lines).1,pb,(c9 L j.lines).2.length,a0⟩) ep->u.heap.size<=az->fm y pb (c9 L j.lines).2.length (c9 L j.lines).2->(∀ k,aP pb k->u.heap.size<=k)->
   (bif (fK L j.lines)then(∀ D,D=y.drew->∃ a7:aK,a7 D/\∃ Seq:Int,(∀ u,a7 u->u.cell? ⟨az,0,none⟩=some (.int .i64 Seq))/\bX.ex λr1=>(∀ u,a7 u->b6 u ⟨az,0,none⟩ 0 r1.cells)/\Calls prog 229 #[ptr aN,r1.val] D λe ad=>∃ b:Bool,e=.returned (.bool b)/\a7 ad/\Ap A w0 u aN tb r m j V (if fK L j.lines=true then((3,(c9 L j.lines).1),ux j m (c9 L j.lines).2 G)else((1,0),⟨true,[],(0,0),G,none,false⟩)) (.tuple #[.int .i64 3,.int .i64 Seq,.bool b]) ad)
    else Ap A w0 u aN tb r m j V (if fK L j.lines=true then((3,(c9 L j.lines).1),ux j m (c9 L j.lines).2 G)else((1,0),⟨true,[],(0,0),G,none,false⟩)) (.tuple #[.int .i64 1,.int .i64 0,.bool true]) y):=by
  intro y az pb a0 K bV ah bL b_;refine ek (λhw=>?_) (λhw=>?_)
  ·rw[bm hw];have H:=bH hw;rintro D R;have C:ai y D:=by rw[R];exact cC _
   clear R;have p:=K.new C;have U:=ai.ak C bV;refine⟨λy=>aq y az (bX.cells ⟨(c9 L j.lines).1,pb,(c9 L j.lines).2.length,a0⟩) ep,U,_,λy z=>z.cell (i:=0) rfl,bX.aT ⟨(c9 L j.lines).1,pb,(c9 L j.lines).2.length,a0⟩ ⟨λy z=>bJ z rfl,?_⟩⟩;refine aE (Rq (M.bK p) (a8.new p) F (q:=⟨(c9 L j.lines).1,pb,(c9 L j.lines).2.length,a0⟩) (bL.new C) H.pl.wr) ?_;rintro v ad ⟨rfl,aM⟩;exact⟨_,rfl,aM.aC.ak U λe=>by grind,rfl,aM.of p p.size⟩
  ·rw[aW (by grind)];have bq:=a8.new K;exact⟨rfl,ao.b7 K,M.bK K,T,bq,F.dC,F.e4⟩
 have cj:=o.size;refine⟨?_,?_⟩
 ·refine aE (wJ j.lines (W.new E.new)) ?_;rintro v cM ⟨pb,a0,rfl,J,aV,ca⟩;refine bX.aT ⟨(c9 L j.lines).1,pb,(c9 L j.lines).2.length,a0⟩ ⟨_,rfl,J,?_⟩;rintro az cN ah a4;obtain⟨ab,aL⟩:=bo ah a4;have ab:aq cN az iO.cells ep:=ab;clear a4;have cD:=J.size;refine⟨J.new aL,dI (vs:=bX.cells ⟨(c9 L j.lines).1,pb,(c9 L j.lines).2.length,a0⟩) ab rfl (bX.single _) λcO bY bx=>?_⟩;have Q:ai cM cO:=aL.trans bx λk bD e=>by omega
  exact fin ((o.new J).new Q) bY (by omega) (aV.new Q) λk H=>by grind
 ·rintro cq b4 br S;obtain⟨t,g⟩:=bo br S;have t:aq b4 cq iO.cells ep:=t;clear S;have cd:=g.size;have b5:=t.lt;refine⟨g,aE (wJ j.lines (W.new (E.bK g).new)) ?_⟩;rintro v cH ⟨pb,a0,rfl,f,Z,bN⟩;have cf:=f.size;refine bX.aT ⟨(c9 L j.lines).1,pb,(c9 L j.lines).2.length,a0⟩ ⟨_,rfl,g.new f,dI (vs:=bX.cells ⟨(c9 L j.lines).1,pb,(c9 L j.lines).2.length,a0⟩) (ai.ak f t) rfl (bX.single _) λcK w N=>?_⟩;exact fin ((o.new (g.new f)).trans N λk bD e=>by omega) w (by omega) (wL Z N λk H e=>by grind) λk H=>by grind
end
end
section
noncomputable abbrev nA:Func:=f129
def IB (r:c3)(tb:Nat)(m:aU)(tag:Int)(V:eI)(o:dA):au:=r.cells++(ptr tb::m.cells)++[.int .u64 tag,.slice V.fs V.j2 V.lc,.int .u64 V.clock]++o.cells
structure uK (A:a6)(w0 u:aj)(aN tb B:Nat)(r:c3)(m:aU)(tag:Int)(S:cq)(o:dA)(bF:aj):Prop where
 aC:ao (λk=>k=tb\/k=aN) u bF
 ak:∃ V,aq bF aN (IB r tb m tag V o) ou
 fN:∃ ib:eG,eJ A w0 bF tb ib S.a_/\ib.dC=S.dC/\(match S.ask with
  |none=>ib.e4=0
  |some vs=>0<vs.length/\∃ w1,ai w0 w1/\B<=w1.heap.size/\bO w1 bF ib.aa ib.e4 ib.ac vs)
theorem eE.run {r:c3}{m:aU}{j:bM}{V:eI}{S:cq}(h:eE A w0 u aN tb B r m j V S bF):uK A w0 u aN tb B r m (gv j.inc j.a3) S (iG S.out) bF:=
 ⟨h.aC,⟨V,h.eD.ak⟩,h.fN⟩
def kf (j:bM)(m:aU)(G:bn):fO:=rU j (bQ G (fx j m)).done
def mf (j:bM)(m:aU)(G:bn):Int:=rR j (bQ G (fx j m)).done
def rp (j:bM)(m:aU)(aX:fO)(cU:Int)(Z:(Int×Int)×cq):cq×dA:=
 if Z.2.ok=false then(Z.2,iG Z.2.out)else if(hF j m Z.2.a_).ok=false then(hF j m Z.2.a_,iG (hF j m Z.2.a_).out)
 else(hF j m Z.2.a_,⟨0,Z.1.1,Z.1.2,jI j.lines cU aX,0⟩)
def tc (j:bM)(m:aU)(C:cq):cq×dA:=
 if C.ok=false then(C,iG C.out)else if(fy j m C.a_).ok=false then(fy j m C.a_,iG (fy j m C.a_).out)
 else rp j m (kf j m C.a_) (mf j m C.a_) (hG j m (kf j m C.a_) (fy j m C.a_).a_)
def h5 (j:bM)(m:aU)(G:bn):cq×dA:=
 if(hr j G).ok=false then(hr j G,iG (hr j G).out)else tc j m (hZ j m (hr j G).a_)
structure pw (S:cq):Prop where
 out:S.out=(0,0)
 ask:S.ask=none
 dC:S.dC=false
theorem v_ {G:bn}{vs:bu}(h:(bQ G vs).ok=true):pw (bQ G vs):=by obtain⟨a,b,c⟩:=oL h;exact⟨a,b,c⟩
theorem L2 {j:bM}{m:aU}{G:bn}(h:(hZ j m G).ok=true):pw (hZ j m G):=by
 unfold hZ at h ⊢;split at h
 ·grind
 rename_i e;rw[aW e];split at h
 ·cases h
 rename_i a;rw[aW a];exact⟨rfl,rfl,rfl⟩
theorem NS {j:bM}{m:aU}{G:bn}(h:(fy j m G).ok=true):pw (fy j m G):=by
 unfold fy sk at h ⊢;split at h
 ·grind
 rename_i e;rw[aW e];split at h
 ·rename_i a;rw[bm a];exact⟨rfl,rfl,rfl⟩
 grind
theorem Lq {j:bM}{m:aU}{G:bn}(h:(hG j m aX G).2.ok=true):pw (hG j m aX G).2:=by
 unfold hG at h ⊢;split at h
 ·rename_i e;rw[bm e];simp only at h ⊢;unfold p_ at h ⊢;split at h
  ·grind
  rename_i a;rw[aW a];unfold pG at h ⊢;split at h
  ·grind
  rename_i c;rw[aW c];split at h
  ·rename_i b;rw[bm b];exact v_ h
  rename_i b;rw[aW b];unfold q0 at h ⊢;split at h
  ·grind
  rename_i d;rw[aW d];exact v_ h
 rename_i e;rw[aW e];split at h
 ·rename_i a;rw[bm a];exact v_ h
 ·rename_i a;rw[aW a];exact⟨rfl,rfl,rfl⟩
theorem L3 {j:bM}{G:bn}(h:(hr j G).ok=true):pw (hr j G):=by
 unfold hr um at h ⊢;split at h
 ·grind
 rename_i e;rw[aW e];split at h
 ·cases h
 rename_i a;rw[aW a];unfold n7 at h ⊢;split at h
 ·grind
 rename_i b;rw[aW b];split at h
 ·cases h
 rename_i c;rw[aW c];exact⟨rfl,rfl,rfl⟩
def Ag (G:bn):Prop:=∀ ds ∈ G,∀ d ∈ ds,∀ x ∈ d.words,ch x
theorem SO {G:bn}(h:hO A w a G):Ag G:=by obtain⟨rows,o,_,_,l⟩:=h;intro ds b d g x n;obtain⟨i,j⟩:=eP.1 b;obtain⟨k,f⟩:=eP.1 g;obtain⟨r,c⟩:∃ r,rows[i]?=some r:=⟨_,bW (by grind)⟩;obtain⟨_,_,e,_⟩:=l i r ds c j;obtain⟨v,ar⟩:∃ v,r.raw[k]?=some v:=⟨_,bW (by have:=dk f;have:=e.1;omega)⟩;exact(e.2 k v d ar f).wf x n
theorem Rt {G:bn}{vs:bu}(h:Ag G):∀ d ∈ (bQ G vs).done,∀ x ∈ d.words,ch x:=by
 intro d a;have:d ∈ (batch G vs).done:=by
  grind[bQ,cm]
 unfold batch at this;split at this
 ·grind
 cases G with
 |nil=>grind
 |cons ds G=>
  simp only at this;split at this
  ·exact h ds g_ d this
  grind
theorem PW {j:bM}{m:aU}{G:bn}(h:Ag G):ch (mf j m G):=by
 unfold mf rR dE d_;rw[lF];cases a:(bQ G (fx j m)).done[2*j.v.mem.length]? with
 |none=>exact gU
 |some d=>
  have:=Rt h d (cu a);cases hw:d.words with
  |nil=>grind[gU]
  |cons x l=>grind
theorem PX {j:bM}{m:aU}{G:bn}(h:(fy j m G).ok=true):(bQ G (fx j m)).ok=true:=by
 grind[fy,sk]
theorem FA {G:bn}{vs:bu}(h:(bQ G vs).ok=true):(bQ G vs).done.length=vs.length:=by
 unfold bQ cm at h ⊢;split at h
 ·cases h
 split at h
 ·cases h
 rename_i b c;rw[aW b,aW c];have a:(batch G vs).ok=true:=by grind
 show(batch G vs).done.length=_;unfold batch at a ⊢;by_cases ar:vs.length=0
 ·grind
 rw[aW ar]at a ⊢;cases G with
 |nil=>grind
 |cons d f=>
  simp only at a ⊢;split at a
  ·rename_i e;rw[bm e]
   grind[wk]
  grind
theorem Px {j:bM}{m:aU}{G:bn}(h:(fy j m G).ok=true):(kf j m G).length=j.v.mem.length/\∀ L ∈ kf j m G,L.length=120:=by
 unfold kf rU;refine⟨by simp,λL d=>?_⟩;obtain⟨i,b,rfl⟩:=dD.1 d;have b:=jd.1 b;have a:=PX h;obtain⟨bD,hm⟩:=CU (m:=m) b;have hlen:=FA a;obtain⟨x,c⟩:∃ x,(bQ G (fx j m)).done[2*i+1]?=some x:=⟨_,bW (by grind)⟩;have:=Gh a hm c;rw[lF,c];have e:(m0 j bD (fl j.dead) 120).v.iK=120:=rfl
 grind
section
variable {A:a6}{w0 u:aj}{aN tb:Nat}{r:c3}{m:aU}{j:bM}{V:eI}{T:eG}{G:bn}
theorem eE.vH {S:cq}(h:eE A w0 u aN tb B r m j V S bF)(c:pw S):dt w0 bF aN tb r m j V (0,0)/\∃ b,eJ A w0 bF tb b S.a_/\f8 b:=by have a:=h.eD;rw[c.out]at a;obtain⟨b,f,d,e⟩:=h.fN;rw[c.ask]at e;rw[c.dC]at d;exact⟨a,b,f,e,d⟩
theorem PY (a1:dt w0 u aN tb r m j ⟨none,0,0,0⟩ (0,0))(bH:eJ A w0 u tb T G)(bb:f8 T) :
  a9 129 [ptr aN] u λv bF=>v=.tuple #[]/\uK A w0 u aN tb u.heap.size r m (gv j.inc j.a3) (h5 j m G).1 (h5 j m G).2 bF:=by
 refine a' Tryz.func129 ?_;rw[ptr,Ya];generalize bV:(λ(v:bl) (bF:aj)=>v=.tuple #[]/\uK A w0 u aN tb u.heap.size r m (gv j.inc j.a3) (h5 j m G).1 (h5 j m G).2 bF)=R;have stop:∀ {w:aj} (ah:au),R (.tuple #[]) w->Go.bd.W prog (sub (ay nA) [0,1]) (u1 ⟨aN,0,none⟩ true ah) (aM (λenv w=>Go.bd.W prog (sub (ay nA) [1]) env (cS prog nA R) w) (cS prog nA R)) w:=by
  intro w ah h;refine ha (fn:=nA) (R:=R) (λ_ _=>rfl) ?_
  grind[Hj]
 have last:∀ {w:aj} {S:cq×dA},h5 j m G=S->uK A w0 u aN tb u.heap.size r m (gv j.inc j.a3) S.1 S.2 w->R (.tuple #[]) w:=by
  grind
 refine aE (t_ a1 bH bb) ?_;rintro v bp ⟨rfl,q⟩;refine⟨_,rfl,eu (λbk=>stop _ (last (S:=(hr j G,iG (hr j G).out)) (bm bk) q.run)) (λbJ=>?_)⟩
 have aI:h5 j m G=tc j m (hZ j m (hr j G).a_):=aW (by grind);obtain⟨a4,bN,O,X⟩:=q.vH (L3 bJ);refine aE (Qi a4 O X) ?_;rintro v b3 ⟨rfl,J⟩;generalize bG:(hr j G).a_=n at J O aI;have d:=eE.seq q.aC (ao.refl _ _) J q.aC.size;refine⟨_,rfl,eu (λbk=>stop _ (last (S:=(hZ j m n,iG (hZ j m n).out)) (aI.trans (bm bk)) d.run)) (λbr=>?_)⟩
 obtain⟨a5,bO,I,Y⟩:=J.vH (L2 br);have aL:h5 j m G=if(fy j m (hZ j m n).a_).ok=false then(fy j m (hZ j m n).a_,iG (fy j m (hZ j m n).a_).out)else rp j m (kf j m (hZ j m n).a_) (mf j m (hZ j m n).a_) (hG j m (kf j m (hZ j m n).a_) (fy j m (hZ j m n).a_).a_):=aI.trans (aW (by grind));refine aE (RN a5 I Y) ?_;rintro v bz ⟨rfl,M,K,a⟩;generalize (hZ j m n).a_=b at K a I aL;have f:=eE.seq d.aC (ao.refl _ _) K d.aC.size;refine⟨_,rfl,?_⟩;cases p:(fy j m b).ok with
 |false=>exact stop _ (last (S:=(fy j m b,iG (fy j m b).out)) (aL.trans (bm p)) f.run)
 |true=>
  obtain⟨a7,bQ,aR,ab⟩:=K.vH (NS p);have N:h5 j m G=rp j m (kf j m b) (mf j m b) (hG j m (kf j m b) (fy j m b).a_):=aL.trans (aW (by grind));obtain⟨a,c⟩:=a p;have a:k1 w0 bz aN tb M (kf j m b):=a;have c:M.clock=mf j m b:=c;obtain⟨af,B⟩:=Px p;have bh:ch (mf j m b):=PW (SO I.a_);refine ha (fn:=nA) (R:=R) (λ_ _=>rfl) ?_;rw[Hj];refine dm rfl (cb (ha (fn:=nA) (R:=R) (λ_ _=>rfl) ?_));rw[VV];generalize kf j m b=aX at a N af B;generalize mf j m b=cU at c N bh;refine aE (Pw a7 aR ab a af) ?_;rintro v bW ⟨rfl,s⟩;have H:(hG j m aX (fy j m b).a_).2.ok=true->pw (hG j m aX (fy j m b).a_).2:=Lq;generalize hG j m aX (fy j m b).a_=Z at s N H;have g:=eE.seq f.aC (ao.refl _ _) s f.aC.size;have l:∀ {w:aj} {S:cq×dA} (ah:au) {Q:Exit->au->aK},(∀ env w,Q .ret env w=cS prog nA R .ret env w)->h5 j m G=S->uK A w0 u aN tb u.heap.size r m (gv j.inc j.a3) S.1 S.2 w->∀ (x y:Int),(∀ env w,R (.tuple #[]) w->Q .normal env w)->Go.bd.W prog (sub (ay nA) [1,1,1]) (xS ⟨aN,0,none⟩ x y false ah) (aV prog nA R Q) w:=by
   grind[Hk]
  refine⟨_,_,_,rfl,ek (λbq=>?_) (λbq=>?_)⟩
  ·obtain⟨a8,bR,aT,ad⟩:=s.vH (H bq);have aP:h5 j m G=if(hF j m Z.2.a_).ok=false then(hF j m Z.2.a_,iG (hF j m Z.2.a_).out)else(hF j m Z.2.a_,⟨0,Z.1.1,Z.1.2,jI j.lines cU aX,0⟩):=N.trans (aW (by grind));refine aE (D1 a8 aT ad) ?_;rintro v bs ⟨rfl,t⟩;have z:(hF j m Z.2.a_).ok=true->pw (hF j m Z.2.a_):=v_;generalize hF j m Z.2.a_=E at t aP z;have F:=eE.seq g.aC (ao.refl _ _) t g.aC.size;refine⟨_,rfl,?_⟩;cases aA:E.ok with
   |false=>exact l _ (λ_ _=>rfl) (S:=(E,iG E.out)) (aP.trans (bm aA)) F.run _ _ λ_ _ h=>h
   |true=>
    have bD:=aP.trans (aW (by grind));obtain⟨U,bx,aZ,C⟩:=t.vH (z aA);rw[Hk];refine fq rfl ?_;have ae:ao (λk=>k=tb\/k=aN) bz bs:=s.aC.trans t.aC λ_ _ e=>e
    refine aE (M_ U (a.aC ae λ_ e=>e) (by have:=a1.ct.mem;omega) B (by grind)) ?_;rintro v bL ⟨rfl,ag⟩;have V:=U.bK ag;refine⟨_,rfl,fU V.ak (dr 20) (dA.single ⟨0,Z.1.1,Z.1.2,_,0⟩),λaB L=>?_⟩;have bo:ao (λk=>k=aN) bL aB:=by rw[L];exact hD _ _ _ _ _
    have P:aq aB aN (IB r tb m (gv j.inc j.a3) M ⟨0,Z.1.1,Z.1.2,jI j.lines M.clock aX,0⟩) ou:=by rw[L];exact V.ak.cv (vs:=dA.cells ⟨0,Z.1.1,Z.1.2,_,0⟩) (o:=15) (i:=0)
    clear L;rw[c]at P;have D:ao (λk=>k=aN) bs aB:=(ao.b7 ag).trans bo λ_ _ e=>e
    show R (.tuple #[]) aB;refine last bD ⟨F.aC.trans D λk _ e=>.inr e,⟨M,P⟩,bx,aZ.aC D λe=>a1.ne e.symm,by rw[C.dC,(z aA).dC],?_⟩;rw[(z aA).ask];exact C.e4
  ·exact l _ (λ_ _=>rfl) (S:=(Z.2,iG Z.2.out)) (N.trans (bm bq)) g.run _ _ λ_ _ h=>h
end
end
section
open IntKind
variable (w:aj)(R:bg){A:aw}{j:al}{F G:Bool}{i k:Int}
def kF:Code->e9
 |.region _ ops _=>ops.toList
 | _=>[]
def Iy (a:aw)(j:al):al:=ae j 0 1 (.pointer (some a)::ae j 1 119 [])
def yw (a:aw)(b:Bool)(j:al):al:=ae j 0 1 (.pointer (some a)::ae j 1 25 (ad b::ae j 26 93 []))
def Iz (a:aw)(j:al):al:=ae j 0 1 (.pointer (some a)::ae j 1 119 [])
def yx (a:aw)(c d:Int)(s8 b:Bool)(j:al):al:=ae j 0 1 (.pointer (some a)::ae j 1 4 (ab c::ab d::ad s8::ae j 5 32 (ad b::ae j 37 79 [])))
def BP (a:aw)(b c:Int)(s8:Bool)(j:al):al:=ae j 0 1 (.pointer (some a)::ae j 1 4 (ab b::ab c::ad s8::ae j 5 112 []))
def yy (a:aw)(c d:Int)(s8 b:Bool)(j:al):al:=ae j 0 1 (.pointer (some a)::ae j 1 4 (ab c::ab d::ad s8::ae j 5 41 (ad b::ae j 46 70 [])))
def BQ (a:aw)(b c:Int)(s8:Bool)(j:al):al:=ae j 0 1 (.pointer (some a)::ae j 1 4 (ab b::ab c::ad s8::ae j 5 112 []))
def sO (a:aw)(c d:Int)(s8 b:Bool)(j:al):al:=ae j 0 1 (.pointer (some a)::ae j 1 4 (ab c::ab d::ad s8::ae j 5 54 (ad b::ae j 59 57 [])))
def yu (a:aw)(b c:Int)(s8:Bool)(j:al):al:=ae j 0 1 (.pointer (some a)::ae j 1 4 (ab b::ab c::ad s8::ae j 5 112 []))
def BR (a:aw)(c d:Int)(b:Bool)(j:al):al:=ae j 0 1 (.pointer (some a)::ae j 1 4 (ab c::ab d::ae j 5 77 (ad b::ae j 82 35 [])))
def BS (a:aw)(b c:Int)(j:al):al:=ae j 0 1 (.pointer (some a)::ae j 1 4 (ab b::ab c::ae j 5 113 []))
def qU (a:Bool)(j:al):al:=ae j 0 120 [ad a]
def Ih (a:Bool)(j:al):al:=ae j 0 93 (ad a::ae j 93 27 [])
def qV  (j:al):al:=ae j 0 121 []
theorem J3 (g:c3):bc prog f127 [g.val] R w=(aR w g.cells.toArray 41 λe f=>bN f (ah e 1) λa=>bN f (ah e 0) λb=>g6 128 #[ab a,ab b] f λc d h=>cond (d != 0) (R (ab d) h) (W prog (sb f127 [1,1]) (Iy (ah e 0) (g.val::ab 0::ag c::ab d::a1 4 (.tuple #[ag c,ab d]::jp (ah e 1)::ab a::jp (ah e 0)::ab b::.tuple #[ag c,ab d]::ag c::ab d::ab d::ad ((d:Int) != 0)::a1 102 []))) (bV f127 R) h)):=by kernel_rfl
theorem XK (env:al)(w:aj)(Q:bH):W prog (sub (ay f127) [1,1]) env Q w=W prog (sub (ay f127) [1,1,0]) env (aM (λenv w=>W prog (sub (ay f127) [1,1,1]) env Q w) Q) w:=by rw[show sub (ay f127) [1,1]=.seq (sub (ay f127) [1,1,0]) (sub (ay f127) [1,1,1]) by kernel_rfl];generalize sub (ay f127) [1,1,0]=a;generalize sub (ay f127) [1,1,1]=b;kernel_rfl
theorem Xn (env:al)(w:aj)(Q:bH):W prog (sub (ay f127) [1,1,0]) env Q w=W prog (sub (ay f127) [1,1,0,0]) env (aM (λenv w=>W prog (sub (ay f127) [1,1,0,1]) env Q w) Q) w:=by rw[show sub (ay f127) [1,1,0]=.seq (sub (ay f127) [1,1,0,0]) (sub (ay f127) [1,1,0,1]) by kernel_rfl];generalize sub (ay f127) [1,1,0,0]=a;generalize sub (ay f127) [1,1,0,1]=b;kernel_rfl
theorem Y7 (a:bH):W prog (sb f127 [1,1,0,0]) (Iy A j) (aV prog f127 R a) w=(bN w (br A 5) λb=>cond (b<0) (a .normal (yw A true (ae j 0 19 (a7 A 5::ab b::ad (b<0)::ad true::a1 3 (ae j 27 93 [])))) w) (bN w (br A 5) λc=>a .normal (yw A (decide ((c:Int)>=6)) (ae j 0 19 (a7 A 5::ab b::ad (b<0)::ad false::a7 A 5::ab c::ad (c>=6)::ae j 27 93 []))) w)):=by kernel_rfl
theorem Y9 (a:bH):W prog (sb f127 [1,1,0,1]) (yw A F j) (aV prog f127 R a) w=(cond F (R (ab 1) w) (a .normal (Iz A (ae j 0 26 (ad F::ae j 26 93 []))) w)):=by kernel_rfl
theorem Y_ (a:bH):W prog (sb f127 [1,1,1]) (Iz A j) (aV prog f127 R a) w=(l0 w (br A 3) λk=>cx 166 #[k.val,ab 5] w λb m=>cond (b != 0) (R (ab b) m) (dp m (br A 7) λc=>B3 177 #[ag c] m λd f g e=>bN e (br A 2) λh=>cond (h<98) (W prog (sb f127 [1,1,1,1,1,0,0,1]) (yx A d f g true (ae j 0 4 (ab b::ae j 8 19 (a7 A 3::k.val::ab b::ab b::ad ((b:Int) != 0)::aB j 32::.tuple #[ab d,ab f,ad g]::a7 A 7::ag c::.tuple #[ab d,ab f,ad g]::ab d::ab f::ad g::a7 A 2::ab h::ad (h<98)::ad true::a1 3 (ad true::ae j 49 71 []))))) (aL 0 (aM (λl w=>W prog (sb f127 [1,1,1,1,1,1]) l (aV prog f127 R a) w) (aV prog f127 R a))) e) (bN e (br A 2) λi=>W prog (sb f127 [1,1,1,1,1,0,0,1]) (yx A d f g (decide ((i:Int)>256)) (ae j 0 4 (ab b::ae j 8 19 (a7 A 3::k.val::ab b::ab b::ad ((b:Int) != 0)::aB j 32::.tuple #[ab d,ab f,ad g]::a7 A 7::ag c::.tuple #[ab d,ab f,ad g]::ab d::ab f::ad g::a7 A 2::ab h::ad (h<98)::ad false::a7 A 2::ab i::ad (i>256)::ad (i>256)::ae j 49 71 [])))) (aL 0 (aM (λl w=>W prog (sb f127 [1,1,1,1,1,1]) l (aV prog f127 R a) w) (aV prog f127 R a))) e))):=by kernel_rfl
theorem Y' (a:bH):W prog (sb f127 [1,1,1,1,1,0,0,1]) (yx A i k F G j) (aV prog f127 R a) w=(cond G (R (ab 18) w) (W prog (sb f127 [1,1,1,1,1,0,0,1,1]) (BP A i k F (ae j 0 37 (ad G::ae j 37 79 []))) (aV prog f127 R a) w)):=by kernel_rfl
theorem XL (env:al)(w:aj)(Q:bH):W prog (sub (ay f127) [1,1,1,1,1,0,0,1,1]) env Q w=W prog (sub (ay f127) [1,1,1,1,1,0,0,1,1,0]) env (aM (λenv w=>W prog (sub (ay f127) [1,1,1,1,1,0,0,1,1,1]) env Q w) Q) w:=by rw[show sub (ay f127) [1,1,1,1,1,0,0,1,1]=.seq (sub (ay f127) [1,1,1,1,1,0,0,1,1,0]) (sub (ay f127) [1,1,1,1,1,0,0,1,1,1]) by kernel_rfl];generalize sub (ay f127) [1,1,1,1,1,0,0,1,1,0]=a;generalize sub (ay f127) [1,1,1,1,1,0,0,1,1,1]=b;kernel_rfl
theorem wn (a:bH):W prog (sb f127 [1,1,1,1,1,0,0,1,1,0]) (BP A i k F j) (aV prog f127 R a) w=(bN w (br A 5) λb=>bN w A λc=>cond (b == c) (bN w (br A 6) λd=>bN w (br A 1) λf=>a .normal (yy A i k F ((d:Int) != f) (ae j 0 46 (a7 A 5::ab b::jp A::ab c::ad ((b:Int) == c)::ad true::a7 A 6::ab d::a7 A 1::ab f::ad ((d:Int) != f)::ad ((d:Int) != f)::ae j 59 58 []))) w) (a .normal (yy A i k F false (ae j 0 46 (a7 A 5::ab b::jp A::ab c::ad ((b:Int) == c)::ad false::a1 5 (ad false::ae j 59 58 [])))) w)):=by kernel_rfl
theorem Za (a:bH):W prog (sb f127 [1,1,1,1,1,0,0,1,1,1]) (yy A i k F G j) (aV prog f127 R a) w=(cond G (R (ab 1) w) (W prog (sb f127 [1,1,1,1,1,0,0,1,1,1,1]) (BQ A i k F (ae j 0 46 (ad G::ae j 46 70 []))) (aV prog f127 R a) w)):=by kernel_rfl
theorem XM (env:al)(w:aj)(Q:bH):W prog (sub (ay f127) [1,1,1,1,1,0,0,1,1,1,1]) env Q w=W prog (sub (ay f127) [1,1,1,1,1,0,0,1,1,1,1,0]) env (aM (λenv w=>W prog (sub (ay f127) [1,1,1,1,1,0,0,1,1,1,1,1]) env Q w) Q) w:=by rw[show sub (ay f127) [1,1,1,1,1,0,0,1,1,1,1]=.seq (sub (ay f127) [1,1,1,1,1,0,0,1,1,1,1,0]) (sub (ay f127) [1,1,1,1,1,0,0,1,1,1,1,1]) by kernel_rfl];generalize sub (ay f127) [1,1,1,1,1,0,0,1,1,1,1,0]=a;generalize sub (ay f127) [1,1,1,1,1,0,0,1,1,1,1,1]=b;kernel_rfl
theorem Zb (a:bH):W prog (sb f127 [1,1,1,1,1,0,0,1,1,1,1,0]) (BQ A i k F j) (aV prog f127 R a) w=(bN w (br A 5) λb=>bN w A λc=>cond (b != c) (bN w (br A 6) λd=>cond (d<2) (a .normal (sO A i k F true (ae j 0 59 (a7 A 5::ab b::jp A::ab c::ad ((b:Int) != c)::ad true::a7 A 6::ab d::ad (d<2)::ad true::a1 3 (ad true::ad true::a1 4 (ad true::ad true::ae j 81 36 []))))) w) (bN w (br A 6) λf=>cond (f>60) (a .normal (sO A i k F true (ae j 0 59 (a7 A 5::ab b::jp A::ab c::ad ((b:Int) != c)::ad true::a7 A 6::ab d::ad (d<2)::ad false::a7 A 6::ab f::ad (f>60)::ad (f>60)::ad true::a1 4 (ad true::ad true::ae j 81 36 [])))) w) (bN w (br A 6) λg=>a .normal (sO A i k F (((Int.tmod g 2):Int) != 0) (ae j 0 59 (a7 A 5::ab b::jp A::ab c::ad ((b:Int) != c)::ad true::a7 A 6::ab d::ad (d<2)::ad false::a7 A 6::ab f::ad (f>60)::ad (f>60)::ad false::a7 A 6::ab g::ab (Int.tmod g 2)::ad (((Int.tmod g 2):Int) != 0)::ad (((Int.tmod g 2):Int) != 0)::ad (((Int.tmod g 2):Int) != 0)::ae j 81 36 []))) w))) (a .normal (sO A i k F false (ae j 0 59 (a7 A 5::ab b::jp A::ab c::ad ((b:Int) != c)::ad false::a1 14 (ad false::ae j 81 36 [])))) w)):=by kernel_rfl
theorem Zc (a:bH):W prog (sb f127 [1,1,1,1,1,0,0,1,1,1,1,1]) (sO A i k F G j) (aV prog f127 R a) w=(cond G (R (ab 2) w) (W prog (sb f127 [1,1,1,1,1,0,0,1,1,1,1,1,1]) (yu A i k F (ae j 0 59 (ad G::ae j 59 57 []))) (aV prog f127 R a) w)):=by kernel_rfl
theorem XN (env:al)(w:aj)(Q:bH):W prog (sub (ay f127) [1,1,1,1,1,0,0,1,1,1,1,1,1]) env Q w=W prog (sub (ay f127) [1,1,1,1,1,0,0,1,1,1,1,1,1,0]) env (aM (λenv w=>W prog (sub (ay f127) [1,1,1,1,1,0,0,1,1,1,1,1,1,1]) env Q w) Q) w:=by rw[show sub (ay f127) [1,1,1,1,1,0,0,1,1,1,1,1,1]=.seq (sub (ay f127) [1,1,1,1,1,0,0,1,1,1,1,1,1,0]) (sub (ay f127) [1,1,1,1,1,0,0,1,1,1,1,1,1,1]) by kernel_rfl];generalize sub (ay f127) [1,1,1,1,1,0,0,1,1,1,1,1,1,0]=a;generalize sub (ay f127) [1,1,1,1,1,0,0,1,1,1,1,1,1,1]=b;kernel_rfl
theorem Zd (a:bH):W prog (sb f127 [1,1,1,1,1,0,0,1,1,1,1,1,1,0]) (yu A i k F j) (aV prog f127 R a) w=(dp w (br A 7) λb=>cond (b != 0) (a .normal (BR A i k (!F) (ae j 0 5 (ad F::ae j 5 76 (a7 A 7::ag b::ad ((b:Int) != 0)::ad true::ad F::ad (!F)::ad (!F)::ae j 89 28 [])))) w) (a .normal (BR A i k false (ae j 0 5 (ad F::ae j 5 76 (a7 A 7::ag b::ad ((b:Int) != 0)::ad false::a1 2 (ad false::ae j 89 28 []))))) w)):=by kernel_rfl
theorem HH (a:bH):W prog (sb f127 [1,1,1,1,1,0,0,1,1,1,1,1,1,1]) (BR A i k F j) (aV prog f127 R a) w=(cond F (R (ab 1) w) (W prog (sb f127 [1,1,1,1,1,0,0,1,1,1,1,1,1,1,1]) (BS A i k (ae j 0 82 (ad F::ae j 82 35 []))) (aV prog f127 R a) w)):=by kernel_rfl
theorem Xo (env:al)(w:aj)(Q:bH):W prog (sub (ay f127) [1,1,1,1,1,0,0,1,1,1,1,1,1,1,1]) env Q w=W prog (sub (ay f127) [1,1,1,1,1,0,0,1,1,1,1,1,1,1,1,0]) env (aM (λenv w=>W prog (sub (ay f127) [1,1,1,1,1,0,0,1,1,1,1,1,1,1,1,1]) env Q w) Q) w:=by rw[show sub (ay f127) [1,1,1,1,1,0,0,1,1,1,1,1,1,1,1]=.seq (sub (ay f127) [1,1,1,1,1,0,0,1,1,1,1,1,1,1,1,0]) (sub (ay f127) [1,1,1,1,1,0,0,1,1,1,1,1,1,1,1,1]) by kernel_rfl];generalize sub (ay f127) [1,1,1,1,1,0,0,1,1,1,1,1,1,1,1,0]=a;generalize sub (ay f127) [1,1,1,1,1,0,0,1,1,1,1,1,1,1,1,1]=b;kernel_rfl
theorem YA (e:bH):W prog (sb f127 [1,1,1,1,1,0,0,1,1,1,1,1,1,1,1,0]) (BS A i k j) (aV prog f127 R e) w=(dp w (br A 7) λb=>cond (b != 0) (bN w A λc=>cond (k == c) (bN w (br A 1) λd=>cond (i>=d) (dh prog (kF (sb f127 [1,1,1,1,1,0,0,1,1,1,1,1,1,1,1,0])) ((kF (sb f127 [1,1,1,1,1,0,0,1,1,1,1,1,1,1,1,0])).drop 27) (qU true (aB j 0::jp A::ae j 1 4 (ab i::ab k::ae j 5 86 (a7 A 7::ag b::ad ((b:Int) != 0)::ad true::ab k::jp A::ab c::ad ((k:Int) == c)::ad true::ab i::a7 A 1::ab d::ad (i>=d)::ad (i>=d)::ad true::a1 10 [ad true])))) ((aV prog f127 R e) .normal) w) (bN w (br A 5) λf=>cond (k == f) (bN w (br A 6) λg=>dh prog (kF (sb f127 [1,1,1,1,1,0,0,1,1,1,1,1,1,1,1,0])) ((kF (sb f127 [1,1,1,1,1,0,0,1,1,1,1,1,1,1,1,0])).drop 27) (qU (decide ((i:Int)>=g)) (aB j 0::jp A::ae j 1 4 (ab i::ab k::ae j 5 86 [a7 A 7,ag b,ad ((b:Int) != 0),ad true,ab k,jp A,ab c,ad ((k:Int) == c),ad true,ab i,a7 A 1,ab d,ad (i>=d),ad (i>=d),ad false,ab k,a7 A 5,ab f,ad ((k:Int) == f),ad true,ab i,a7 A 6,ab g,ad (i>=g),ad (i>=g),ad (i>=g)]))) ((aV prog f127 R e) .normal) w) (dh prog (kF (sb f127 [1,1,1,1,1,0,0,1,1,1,1,1,1,1,1,0])) ((kF (sb f127 [1,1,1,1,1,0,0,1,1,1,1,1,1,1,1,0])).drop 27) (qU false (aB j 0::jp A::ae j 1 4 (ab i::ab k::ae j 5 86 (a7 A 7::ag b::ad ((b:Int) != 0)::ad true::ab k::jp A::ab c::ad ((k:Int) == c)::ad true::ab i::a7 A 1::ab d::ad (i>=d)::ad (i>=d)::ad false::ab k::a7 A 5::ab f::ad ((k:Int) == f)::ad false::a1 4 [ad false,ad false])))) ((aV prog f127 R e) .normal) w))) (bN w (br A 5) λh=>cond (k == h) (bN w (br A 6) λa=>dh prog (kF (sb f127 [1,1,1,1,1,0,0,1,1,1,1,1,1,1,1,0])) ((kF (sb f127 [1,1,1,1,1,0,0,1,1,1,1,1,1,1,1,0])).drop 27) (qU (decide ((i:Int)>=a)) (aB j 0::jp A::ae j 1 4 (ab i::ab k::ae j 5 86 (a7 A 7::ag b::ad ((b:Int) != 0)::ad true::ab k::jp A::ab c::ad ((k:Int) == c)::ad false::a1 4 [ad false,ad false,ab k,a7 A 5,ab h,ad ((k:Int) == h),ad true,ab i,a7 A 6,ab a,ad (i>=a),ad (i>=a),ad (i>=a)])))) ((aV prog f127 R e) .normal) w) (dh prog (kF (sb f127 [1,1,1,1,1,0,0,1,1,1,1,1,1,1,1,0])) ((kF (sb f127 [1,1,1,1,1,0,0,1,1,1,1,1,1,1,1,0])).drop 27) (qU false (aB j 0::jp A::ae j 1 4 (ab i::ab k::ae j 5 86 (a7 A 7::ag b::ad ((b:Int) != 0)::ad true::ab k::jp A::ab c::ad ((k:Int) == c)::ad false::a1 4 (ad false::ad false::ab k::a7 A 5::ab h::ad ((k:Int) == h)::ad false::a1 4 [ad false,ad false]))))) ((aV prog f127 R e) .normal) w))) (dh prog (kF (sb f127 [1,1,1,1,1,0,0,1,1,1,1,1,1,1,1,0])) ((kF (sb f127 [1,1,1,1,1,0,0,1,1,1,1,1,1,1,1,0])).drop 27) (qU false (aB j 0::jp A::ae j 1 4 (ab i::ab k::ae j 5 86 (a7 A 7::ag b::ad ((b:Int) != 0)::ad false::a1 22 [])))) ((aV prog f127 R e) .normal) w)):=by kernel_rfl
theorem YB (a:bH):dh prog (kF (sb f127 [1,1,1,1,1,0,0,1,1,1,1,1,1,1,1,0])) ((kF (sb f127 [1,1,1,1,1,0,0,1,1,1,1,1,1,1,1,0])).drop 27) (qU F j) ((aV prog f127 R a) .normal) w=(a .normal (Ih F (ae j 0 93 (ae j 94 26 [ad F]))) w):=by kernel_rfl
theorem YC (a:bH):W prog (sb f127 [1,1,1,1,1,0,0,1,1,1,1,1,1,1,1,1]) (Ih F j) (aV prog f127 R a) w=(cond F (R (ab 1) w) (a .normal (qV  (ae j 0 93 (ad F::ae j 93 27 []))) w)):=by kernel_rfl
theorem YD (a:bH):W prog (sb f127 [1,1,1,1,1,1]) (qV  j) (aV prog f127 R a) w=(R (ab 0) w):=by kernel_rfl
end
end Go.Proofs.YtmkljjbioomepaaGreat
