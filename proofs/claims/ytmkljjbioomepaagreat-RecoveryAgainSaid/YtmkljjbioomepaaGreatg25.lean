import Derived.Test.YtmkljjbioomepaaGreatg24
import Derived.Test.YtmkljjbioomepaaGreatg03
import Derived.Test.YtmkljjbioomepaaGreatg08
import Derived.Test.YtmkljjbioomepaaGreatg13
set_option linter.all false
set_option maxHeartbeats 4000000
set_option maxRecDepth 100000
namespace Go.Proofs.YtmkljjbioomepaaGreat
open Go.Proofs.Tryz Go.bJ
variable {A:a4}{a b:Int}{c e aM j k m most n sc y:Nat}{sa:ak}{sch:a7}{u w:an}
section
open dI
theorem O6 {x:Int}(D:dU x):a5 19 [.int .i64 x] w λv u=>∃ a c,v=.slice a (hH (x % 14).toNat).length c/\bl u a (is (ns (hH (x % 14).toNat)))/\ai w u:=by
 refine ba Tryz.func19 ?_;rw[Yn];obtain⟨y,E,h⟩:∃ y:Nat,x % 14=y/\y<14:=⟨(x % 14).toNat,by omega,by omega⟩;refine cZ mix (λm env u=>∃ (i:Nat) (a:ak) (n c:Nat) (aC:ax),m=4-i/\i<=4/\n=(ot y i).length/\env=vw x a n c i aC/\ai w u/\aX u 3 1 a n c (is (ns (ot y i)))/\∀ k,aP a k->w.heap.size<=k) 4
  ⟨0,none,0,0,_,rfl,by omega,rfl,rfl,ao.refl _ _,aX.nil _ _ _,λk q=>(tU q).elim⟩ ?_
 rintro m env u ⟨i,a,n,c,aC,rfl,F,rfl,rfl,j,d,f⟩;rw[Vo];refine bb (λg=>?_) (λA=>?_)
 ·have g:i<4:=by omega
  refine aB (q0 _ _ _ D (by omega)) ?_;rintro v bQ ⟨rfl,rfl⟩;rw[aQ (by omega),E];refine⟨_,rfl,?_⟩;have hlen:=LK y i;have r:IntKind.i64.wrap ((y:Int)+1)=((y+1:Nat):Int):=by rw[bI (by omega) (by omega)];omega
  have s:IntKind.u64.wrap (i:Int)=(i:Int):=ly (by omega) (by omega);dsimp only;rw[r,s,Nb y h i g,bI (x:=(i:Int)+1) (by omega) (by omega),bI (x:=96+(i:Int)) (by omega) (by omega)];refine⟨by omega,gW (λp=>?_) (λp=>?_)⟩
  ·refine P_ d (x:=96+(i:Int)) (by omega) ?_;intro b ap cap bw z B o t;have C:=j.size;have l:=J5 y i;rw[bh p]at l;refine⟨4-(i+1),by omega,i+1,ap,_,cap,_,rfl,by omega,by grind,rfl,tB j o f,?_,λk q=>?_⟩
   ·grind[is,ns,ot]
   grind
  ·have l:=J5 y i;rw[aQ (by grind),kV]at l;exact⟨4-(i+1),by omega,i+1,a,_,c,_,rfl,by omega,by rw[l],rfl,j,by grind,f⟩
 ·have:i=4:=by omega
  subst this;rw[Wg];have e:(x % 14).toNat=y:=by omega
  rw[e];exact⟨a,c,rfl,d.rd,j⟩
def wk:cu:=⟨0,0,⟨0⟩,⟨0,0,0,0,0⟩,⟨0,0,0,⟨0,none,0,0⟩,none,0,0,none,0,0⟩,⟨0,0,0,⟨0,none,0,0⟩,0,0,0⟩,none,0,0,false,false,0,⟨0,none,0,0⟩,0,none,0,0,0,0,0,0,0⟩
def j2 (c seq lines:Int)(a:da)(b:ak)(wl d:Nat):cu:={wk with Kind:=3,Client:=c,jv:=⟨c,seq,lines,a,none,0,0,b,wl,d⟩}
def qx (c prev:Int)(a:da):cu:={wk with Kind:=4,Client:=c,Recover:=⟨c,1,101,a,0,2,prev⟩}
def vh (p:aN):aN:={p with Head:=uX .u64 p.Head 255,wV:=IntKind.u64.wrap (p.wV+1)}
def qa (n:aD)(L:c6):List aN:=L.map λl=>vh (n.gP l)
theorem D7 {aw:bR}{X:bs}(h:cj A aw w aM X)(bK:1<=n/\n<=5){x:g4}(cb:X.nodes[0]?=some x)(b0:x.n.down=false)
  {L:c6} (bO:∀ l ∈ L,96<=l/\l<256/\l*8+8<=x.n.words.length) (hlen:L.length<=1000) {a:ak} {cc:Nat} (b7:bl w a (is (ns L))) (c seq:Int) :
  a5 24 [ptr aM,.int .i64 n,.int .i64 c,.int .i64 seq,.slice a L.length cc] w λv u=>∃ s t C,v=.tuple #[(j2 c seq 101 s t L.length C).val,.bool true]/\ai w u/\gD A u s (j' n)/\aX u fr 9 t L.length C (iw (qa x.n L)).flatten/\∀ k,aP t k->w.heap.size<=k:=by
 refine ba Tryz.func24 ?_;rw[ptr,X4];rintro b1 w1 aO Y;obtain⟨d,S⟩:=bo aO Y;have d:av w1 b1 wk.cells 45:=d;clear Y;refine aB (Fc _ (n:=n) (by omega) (by omega)) ?_;rintro v aH ⟨s,cr,rfl,al,f,_,rfl⟩;have b5:=d.lt;have b8:=S.size;have b9:=f.size;have al:gD (λk=>k<w1.heap.size\/aH.heap.size<=k) aH s (j' n):=al.mono λk p g=>g.resolve_right (by omega)
 refine da.aV s ⟨rfl,?_⟩;rintro M ct N Z;obtain⟨af,I⟩:=bo N Z;have F:=ai.aj (f.new I) d;clear Z;refine dY (vs:=dj.cells ⟨c,seq,101,s,none,0,0,none,0,0⟩) af rfl (dj.single ⟨c,seq,101,s,none,0,0,none,0,0⟩) λbN ag j=>?_
 have G:=j.aj F (by omega);have y:ai aH bN:=I.trans j λk p e=>by omega
 have J:ai w bN:=(S.new f).new y;have P:M=aH.heap.size:=N;have bm:=al.new y;clear d F af j I y;refine cZ mix (λq env z=>∃ (i:Nat) (t:ak) (C:Nat) (aC:ax),q=L.length-i/\i<=L.length/\env=ye ⟨aM,0,none⟩ c a L.length cc ⟨b1,0,none⟩ ⟨M,0,none⟩ i aC/\ai w z/\gD (λk=>k<w1.heap.size\/aH.heap.size<=k) z s (j' n)/\av z b1 wk.cells 45/\av z M (dj.cells ⟨c,seq,101,s,none,0,0,t,i,C⟩) 39/\aX z fr 9 t i C (iw (qa x.n (L.take i))).flatten/\∀ k,aP t k->M<k) L.length
  ⟨0,none,0,_,rfl,by omega,rfl,J,bm,G,ag,aX.nil _ _ _,λk g=>(tU g).elim⟩ ?_
 clear G ag;rintro q env z ⟨i,t,C,aC,rfl,cm,rfl,R,W,d,K,B,b2⟩;rw[UZ];refine bb (λp=>?_) (λb3=>?_)
 ·have Q:i<L.length:=by omega
  obtain⟨a',P,bh⟩:=bO L[i] (sj Q);have bD:(ns L)[i]?=some (L[i]:Int):=by grind[ns]
  have U:qa x.n (L.take (i+1))=qa x.n (L.take i)++[vh (x.n.gP L[i])]:=by
   grind[qa,List.take_succ_eq_append_getElem]
  generalize L[i]=l at a' P bh bD U;refine B2 (b7.new R) bD rfl (by simp[ns]) λb o bV=>⟨_,bV _ (ao.refl _ _),?_⟩
  refine aB (AN (h.new R) cb (l:=l) (by omega) (by omega) b0) ?_;rintro v cl ⟨rfl,f⟩;refine aN.aV (x.n.gP l) ⟨true,rfl,?_⟩;rintro bA bw aQ V;obtain⟨aG,T⟩:=bo aQ V;clear V;refine dY (vs:=(x.n.gP l).cells) aG rfl (aN.single _) λcq aq j=>?_
  have J:ai z cq:=(f.new T).trans j λk p e=>by have:=f.size;omega
  have bC:z.heap.size<=bA:=by have:=f.size;omega
  clear aG T j;refine dG rfl ⟨_,aq.cell (i:=1) rfl,?_⟩;refine sC aq (o:=1) (by simp[aN.cells]) λcn ah a0=>?_
  refine uA (by omega) (by omega) ⟨_,ah.cell (i:=2) rfl,?_⟩;refine uA (by omega) (by omega) ?_;refine sC ah (o:=2) (by simp[aN.cells]) λbM br a8=>?_
  have bx:av bM bA (vh (x.n.gP l)).cells fr:=br;have r:ai z bM:=J.trans (a0.trans a8 λ_ _ h=>h) λk p e=>by omega
  have ab:=ai.aj r d;have H:=ai.aj r K;refine⟨_,_,_,H.cell (i:=6) rfl,?_⟩;refine aN.aV (vh (x.n.gP l)) ⟨bX bx rfl,?_⟩;refine QJ (B.new r) (by omega) ?_;intro cd ap cap u8 bT bk D bP;have ad:=D.aj ab (λe=>by grind);have ae:=D.aj H (λe=>by grind);have bH:=K.lt;have b_:=r.size;have ca:=R.size;have O:∀ k,aP ap k->M<k:=λk g=>by
   grind
  refine sC (b:=M) ae (o:=6) (by simp[dj.cells]) λcp bz E=>?_
  rw[bI (x:=(i:Int)+1) (by omega) (by omega)];have bj:ai w u8:=tB (R.new r) D λk g=>by grind
  have bq:=((W.new r).aA D λk g=>.inr (by grind)).aA E λk e=>.inr (by omega)
  exact⟨L.length-(i+1),by omega,i+1,ap,cap,_,rfl,by omega,rfl,bj.trans E λk p e=>by omega,bq,E.aj ad (by omega),bz,by rw[U];exact bk.aA E λk g e=>by grind,O⟩
 ·have aR:i=L.length:=by omega
  subst aR;rw[Ws];rw[ja]at B;refine dj.aV ⟨c,seq,101,s,none,0,0,t,L.length,C⟩ ⟨bX K rfl,?_⟩;refine dY (vs:=(j2 c seq 101 s t L.length C).cells) d rfl (cu.single _) λbQ aq g=>?_
  refine cu.aV (j2 c seq 101 s t L.length C) ⟨bX aq rfl,rfl,s,t,C,rfl,R.trans g λk p e=>by omega,?_,B.aA g λk aZ e=>by grind,λk aZ=>by grind⟩;exact(W.aA g λk e=>.inl (by omega)).mono λk _ g=>.inl (by have:=h.low k g;omega)
theorem A2 (r:∀ k,A k->k<w.heap.size)(l:1<=n/\n<=5)(c prev:Int) :
  a5 16 [.int .i64 n,.int .i64 c,.int .u64 prev] w λv u=>∃ b,v=(qx c prev b).val/\ai w u/\gD A u b (j' n):=by
 refine ba Tryz.func16 ?_;rw[Y3];rintro b1 w1 i h;obtain⟨a,f⟩:=bo i h;have a:av w1 b1 wk.cells 45:=a;clear h;refine aB (Fc _ (n:=n) (by omega) (by omega)) ?_;rintro v x ⟨b,t,rfl,al,g,_,rfl⟩;have q:=f.size;refine da.aV b ⟨rfl,?_⟩;refine dY (vs:=(qx c prev b).cells) (ai.aj g a) rfl (cu.single _) λy j d=>?_
 refine cu.aV (qx c prev b) ⟨bX j rfl,rfl,b,rfl,(f.new g).trans d λk p e=>by omega,?_⟩;have o:=a.lt;exact(al.aA d λk e=>(by grind)).mono λk _ s=>(by grind)
end
section
open dI
def A3 (c:Int)(j:cJ):bK dI.conv:=⟨c,.inl j,[],false,false,.inl (0,0)⟩
def A4 (c:Int)(j:bL):bK dI.conv:=⟨c,.inr j,[],false,false,.inr ⟨0,0,0,0,0⟩⟩
structure G3 (p:aN):Prop where
 head:cy p.Head
 data:∀ x ∈ h7 p,cy x
theorem ED {c seq lines:Int}{g:da}{f:ak}{wl h:Nat}{W:List aN}(al:gD A u g (j' n))
  (hw:bl u f (iw W).flatten) (d:wl=W.length) (b:W.length<=1000000) (e:(iw W).flatten=[]\/gU A f) (hu:∀ p ∈ W,G3 p) :
  hb A u (j2 c seq lines g f wl h) (A3 c ⟨c,seq,lines,j' n,[],W⟩):=
 ⟨rfl,rfl,rfl,rfl,ic.nil _ _ _,rfl,db _,⟨⟨rfl,rfl,rfl,⟨A,al⟩,.inl rfl,rfl,by simp,⟨hw,d,b,λp a=>(hu p a).head⟩⟩,al,.inl rfl,e,λp a=>(hu p a).data⟩,⟨rfl,rfl⟩,by show([]:a3).length<=201;simp⟩
theorem EE {c prev:Int}{a:da}(al:gD A u a (j' n))(b:cy prev) :
  hb A u (qx c prev a) (A4 c ⟨c,1,101,j' n,0,2,prev⟩):=
 ⟨rfl,rfl,rfl,rfl,ic.nil _ _ _,rfl,db _,⟨⟨rfl,rfl,rfl,⟨A,al⟩,rfl,rfl,rfl,b⟩,al⟩,⟨rfl,rfl,rfl,rfl⟩,by show([]:a3).length<=201;simp⟩
structure jQ (w z:an)(aM:Nat)(A:a4)(aw:bR)(X:bs)(F:ay):Prop where
 cw:cj A aw z aM X
 pure:X.pure=F
 new:ai w z
 own:∀ k,A k->w.heap.size<=k
section
variable {w z:an}{aM:Nat}{A:a4}{aw:bR}{X:bs}{F:ay}
theorem jQ.h_ {ch:an}(h:jQ w z aM A aw X F)(a:ai z ch):jQ w ch aM A aw X F:=⟨h.cw.new a,h.pure,h.new.new a,h.own⟩
theorem jQ.op {bE:ay}{K:(a4)->Prop}(h:jQ w z aM A aw X F)(p:d_ A aw z aM bE u K):∃ A' χ' e,jQ w u aM A' χ' e bE/\K A'/\ao A z u/\∀ k,k<z.heap.size->A' k->A k:=by
 obtain⟨A',χ',e,f,i,l,j⟩:=p;have d:ao A z u:=f.aA.mono λk _ n=>h.cw.fs k n
 have a:∀ k,k<z.heap.size->A' k->A k:=λk b c=>by
  rcases(f.iff k).1 c with g | ⟨_,g,_⟩
  ·exact h.cw.fs k (f.grow k b g)
  grind
 refine⟨A',χ',e,⟨i,l,h.new.trans d λk b c=>by have:=h.own k c;omega,λk c=>?_⟩,j,d,a⟩;have:=h.new.size;by_cases b:k<z.heap.size
 ·exact h.own k (a k b c)
 ·omega
theorem gi.owns {w0 w u:an}{L B:a4}{h:bR}{d:bs}(t:gi A aw w aM L u B h X)(f:cj A aw w aM d)(g:ai w0 w)(e:∀ k,A k->w0.heap.size<=k):∀ k,B k\/L k->w0.heap.size<=k:=λk a=>by
 have i:=g.size;rcases a with a | a
 ·rcases(t.next.iff k).1 a with c | ⟨_,c,_⟩
  ·by_cases b:k<w.heap.size
   ·exact e k (f.fs k (t.next.grow k b c))
   ·omega
  grind
 ·have:=(t.loc k a).1;omega
attribute [local irreducible] dP
def Hl (Inv:ay->a4):Prop:=∀ F m,Inv F m->cr F/\∀ x ∈ F.dd,∃ bE a,F.step x=(true,bE)/\a<m/\Inv bE a
def r6 (x:fb):jc:=⟨x.ew,x.aL,x.node⟩
theorem RM (h:jQ w z aM A aw X F){Inv:ay->a4}(ah:Hl Inv)(af:Inv F m)(hm:m<=5000)(V:bl w sa (is sch))(W:∀ x ∈ sch,dU x)(a0:sch.length<=1000) :
  a5 17 [ptr aM,.slice sa sch.length sc] z λv u=>v=.bool true/\∃ A' χ' B bE a',jQ w u aM A' χ' B bE/\Inv bE a'/\ao A z u/\∀ k,k<z.heap.size->A' k->A k:=by
 refine ba Tryz.func17 ?_;rw[ptr,YI];refine cZ mix (λq env u=>∃ (s:Nat) (aC:ax) (A':a4) (χ':bR) (B:bs) (bE:ay),s+q<=5000/\env=vz ⟨aM,0,none⟩ sa sch.length sc s aC/\jQ w u aM A' χ' B bE/\Inv bE q/\ao A z u/\∀ k,k<z.heap.size->A' k->A k) m
  ⟨0,_,A,aw,X,F,by omega,rfl,h,af,ao.refl _ _,λ_ _ h=>h⟩ ?_
 rintro q env u ⟨s,aC,A',χ',B,bE,bm,rfl,O,p,U,S⟩;rw[V7];obtain⟨a,I⟩:=ah bE q p;have j:=O.pure;have N:B.bZ.length<=100000000:=by
  have ag:=a.le
  grind[bs.pure]
 have H:nU B.pure:=by rw[j];exact a.cg.ok
 refine aB (zG O.cw H N) ?_;rintro v bQ ⟨bh,cc,rfl,f⟩;rw[j]at f ⊢;refine⟨_,_,_,rfl,?_⟩;have D:=O.h_ f.new;refine bb (λr=>?_) (λaq=>?_)
 ·have r:0<bE.dd.length:=by omega
  refine aB (zG D.cw H N) ?_;rintro v cl ⟨aY,bj,rfl,g⟩;rw[j]at g ⊢;refine⟨_,_,_,rfl,?_⟩;have M:=D.h_ g.new;have G:ai u cl:=f.new.new g.new;have t:bl cl aY (bE.dd.map λx=>(r6 x).cells).flatten:=g.own.rd;have key:∀ {i:Nat} {x:fb},bE.dd[i]?=some x->a5 37 [ptr aM,x.val] cl λv bw=>v=.bool true/\∃ l J C n y,y<q/\jQ w bw aM l J C n/\Inv n y/\ao A z bw/\∀ k,k<z.heap.size->l k->A k:=λ{i x} a8=>by obtain⟨n,y,Z,K,L⟩:=I x (b9 a8);refine aB (z' M.cw H x) ?_;rintro v bw ⟨rfl,Y⟩;rw[j,Z]at Y ⊢;obtain⟨l,J,C,ab,_,ad,ae⟩:=M.op Y;have aX:=U.size;have aZ:=G.size;exact⟨_,rfl,rfl,l,J,C,n,y,K,ab,L,(U.trans G λk c e=>e.elim).trans ad λk c e=>S k c e,λk c e=>S k c (ae k (by omega) e)⟩
  have aG:bE.dd.length<1000000000:=by have ag:=C5 a.cg.ok;have bk:=a.le;omega
  refine bb (λc=>?_) (λaH=>?_)
  ·have c:s<sch.length:=by omega
   refine B2 ((V.new O.new).new G) (b2 c) rfl rfl λb o av=>⟨_,av _ (ao.refl _ _),?_⟩
   refine aB (q0 _ _ _ (W _ (sj c)) (by omega)) ?_;rintro v bw ⟨rfl,rfl⟩;refine⟨_,rfl,bb (λh=>by omega) (λ_=>?_)⟩
   rw[aQ (by omega)];have aP:=uv sch[s] (b:=(bE.dd.length:Int)) (by omega);have aR:=uu sch[s] (b:=(bE.dd.length:Int)) (by omega);obtain⟨i,aO⟩:∃ i:Nat,sch[s] % (bE.dd.length:Int)=i:=⟨(sch[s] % (bE.dd.length:Int)).toNat,by omega⟩;rw[aO];have T:i<bE.dd.length:=by omega
   have d:bE.dd[i]?=some bE.dd[i]:=b2 T;refine eQ (cells:=λx=>(r6 x).cells) (λx=>jc.len (r6 x)) (by omega) t d rfl rfl λb o E _=>jc.aV (r6 bE.dd[i]) ⟨E,?_⟩
   refine aB (key d) ?_;rintro v bw ⟨rfl,l,J,C,n,y,K,L,P,Q,R⟩;rw[bI (x:=(s:Int)+1) (by omega) (by omega)];exact⟨_,rfl,dG rfl ⟨y,K,s+1,_,l,J,C,n,by omega,rfl,L,P,Q,R⟩⟩
  ·refine bb (λh=>by omega) (λ_=>?_)
   have d:bE.dd[0]?=some bE.dd[0]:=b2 r;refine eQ (cells:=λx=>(r6 x).cells) (λx=>jc.len (r6 x)) (by omega) t d rfl rfl λb o E _=>jc.aV (r6 bE.dd[0]) ⟨E,?_⟩
   refine aB (key d) ?_;rintro v bw ⟨rfl,l,J,C,n,y,K,L,P,Q,R⟩;rw[bI (x:=(s:Int)+1) (by omega) (by omega)];exact⟨_,rfl,dG rfl ⟨y,K,s+1,_,l,J,C,n,by omega,rfl,L,P,Q,R⟩⟩
 ·rw[rt];exact⟨rfl,A',χ',B,bE,q,D,p,U.trans f.new λk _ e=>e.elim,S⟩
end
end
section
open dI

end
section
def GY (p:cH):Prop:=p.a1=[]->p.b4=0/\p.words=[]
def sx (C:a9):Prop:=∀ l ∈ C.az,GY l.pair
def ek (F:ay):Prop:=∀ C ∈ F.aF,sx C
theorem ek.fresh (n c L:Nat):ek (ay.fresh n c L):=λC a l b=>by obtain⟨i,_,rfl⟩:=cW.1 a;obtain⟨j,_,rfl⟩:=cW.1 b;exactλ_=>⟨rfl,rfl⟩
section
variable {F:ay}
theorem ek.eo (h:ek F){c:Int}{C:a9}(d:sx C):ek (F.eo c C):=λD b=>by
 rcases nP b with a | rfl
 ·exact h D a
 grind
theorem ek.cC (h:ek F){c:Int}{C:a9}(a:F.cC c=some C):sx C:=by
 unfold ay.cC at a;split at a
 ·cases a
 ·exact h C (b9 a)
theorem CJ:∀ (vs:a_) {C:a9} {k:Nat},sx C->sx (C.fB k vs)
 | [],C,k,h=>h
 |v::vs,C,k,h=>by
  refine CJ vs (C:=C.fe k v) λl c=>?_
  obtain⟨j,a⟩:=ez.1 c;have a:(C.az.modify v.node.toNat λl=>⟨{l.pair with a1:=l.pair.a1++[v]},l.bG++[k]⟩)[j]?=some l:=a;rw[Cr]at a;cases b:C.az[j]? with
  |none=>grind
  |some x=>
   rw[b]at a;split at a
   ·cases a;intro e;simp at e
   ·cases a;exact h x (b9 b)
theorem ek.post (h:ek F)(c:Int)(vs:a_):ek (F.post c vs).2:=by
 unfold ay.post;cases a:F.cC c with
 |none=>exact h
 |some C=>
  simp only;repeat' split
  all_goals first | exact h | exact h.eo (CJ vs (h.cC a))
theorem ek.take (h:ek F)(c:Int):ek (F.take c).2:=by
 unfold ay.take;cases a:F.cC c with
 |none=>exact h
 |some C=>
  simp only;repeat' split
  all_goals first | exact h | exact h.eo λl b=>h.cC a l b
theorem Nf {p:cH}(n:aD)(al:p.a1≠[]):GY (p.step n).1:=by
 unfold cH.step;cases e:p.a1 with
 |nil=>grind
 |cons x xs=>
  simp only;split
  ·exactλ_=>⟨rfl,rfl⟩
  ·split
   ·intro a;cases a
   ·exactλ_=>⟨rfl,rfl⟩
theorem ek.step (h:ek F)(x:fb):ek (F.step x).2:=by
 unfold ay.step;split
 ·unfold ay.iY;repeat' split
  all_goals exact h
 ·split
  ·exact h
  ·cases i:F.cC x.aL with
   |none=>exact h
   |some C=>
    simp only;split
    ·exact h
    ·split
     ·rename_i l n k o;split
      ·exact h
      ·rename_i al;refine ek.eo (c:=x.aL) h λl' a=>?_
       have f:sx C:=h.cC i;have j:=Nf n λe=>al (by rw[e];rfl)
       cases g:(l.pair.step n).2.2 with
       |none=>
        rw[g]at a;rcases nP a with b | rfl
        ·exact f l' b
        grind
       |some d=>
        rw[g]at a;rcases nP a with b | rfl
        ·exact f l' b
        grind
     grind
theorem ek.die (h:ek F)(c:Int):ek (F.die c).2:=by
 unfold ay.die;cases b:F.cC c with
 |none=>exact h
 |some C=>
  simp only;split
  ·exact h
  ·exact ek.eo (c:=c) h λl a=>by cases a
variable {cv:Conv}
theorem ek.br (h:ek F)(t:bK cv):ek (br F t).1:=by
 unfold Go.Proofs.YtmkljjbioomepaaGreat.br;split
 ·exact h
 ·unfold gG;have a:=h.take t.aL;repeat' split
  all_goals first | exact a | exact a.post _ _
theorem ek.turns:∀ (l:List (bK cv)) {F:ay},ek F->ek (turns F l).1
 | [],_,h=>h
 |t::l,F,h=>by unfold Go.Proofs.YtmkljjbioomepaaGreat.turns;exact ek.turns l (h.br t)
theorem ek.e6 (h:ek F)(sch:a7)(n:Nat):ek (e6 F sch n).2:=by
 unfold Go.Proofs.YtmkljjbioomepaaGreat.e6;split
 ·exact h
 ·exact h.step _
theorem ek.eG (cs sch:a7):∀ (f n:Nat) {F:ay} (l:List (bK cv)),ek F->ek (eG cs sch [] f n F l).1
 | 0,_,_,_,h=>h
 |f+1,n,F,l,h=>by
  unfold Go.Proofs.YtmkljjbioomepaaGreat.eG;have a:=(ek.turns l (F:=je F cs n []) h).e6 sch n;split
  ·exact ek.eG cs sch f (n+1) _ a
  ·exact a
theorem ek.dP (h:ek F)(l:List (bK cv))(sch:a7)(most:Nat):ek (dP F l sch [] most).1:=ek.turns _ (ek.eG _ _ _ _ _ h)
end
theorem CM {i:Nat}:∀ {ls:List ct} {j:Nat},kz i j ls=[]->∀ l ∈ ls,l.pair.a1=[]
 | [],j,h,l,a=>by cases a
 |x::ls,j,h,l,a=>by
  unfold kz at h;obtain⟨b,c⟩:=Cq.1 h;rcases f0.1 a with rfl | a
  ·split at b
   ·cases b
   ·exact oL.1 (by omega)
  ·exact CM c l a
theorem CN:∀ {cs:List a9} {i:Nat},hp i cs=[]->∀ C ∈ cs,∀ l ∈ C.az,l.pair.a1=[]
 | [],i,h,C,a=>by cases a
 |x::cs,i,h,C,a=>by
  unfold hp at h;obtain⟨b,c⟩:=Cq.1 h;rcases f0.1 a with rfl | a
  ·exact CM b
  ·exact CN c C a
theorem Ng {F:ay}(h:F.dd=[]):F.bZ=[]/\∀ C ∈ F.aF,∀ l ∈ C.az,l.pair.a1=[]:=by
 unfold ay.dd at h;obtain⟨b,a⟩:=Cq.1 h;refine⟨?_,CN b⟩;cases c:F.bZ with
 |nil=>rfl
 |cons p cx=>rw[c]at a;cases a
end
section
open dI
theorem wS {α β:Type}{f:α->β}{l:List α}{y:β}(h:l.map f=[y]):∃ x,l=[x]/\f x=y:=by
 simp_all
section
attribute [local irreducible] dP
theorem EF {aw:bR}{g z:an}{b1:Nat}{X:bs}(H:cj A aw g aM X)(P:ai g z)(Y:g.heap.size<=b1/\b1<z.heap.size)(N:cr X.pure){r:fh}{t:bK conv}(ab:hb (λk=>A k\/k=b1) z r t)(S:nW t)
  {aW:ak} {pc:Nat} (w:bl z aW r.cells) (C:pR (λk=>A k\/k=b1) z sa (is sch)) (D:∀ x ∈ sch,dU x) (hm:most<=1000000) {bE:ay} {j:bK conv} (M:dP X.pure [t] sch [] most=(bE,[j])) :
  a5 15 [ptr aM,.slice aW 1 pc,.slice sa sch.length sc,.slice none 0 0,.int .i64 most] z λv u=>∃ la lc c B V h,v=.slice la 1 lc/\gi A aw g aM (λk=>k=b1) u B V h/\h.pure=bE/\hb (λk=>B k\/k=b1) u c j/\(∀ K:aU->Prop,(∀ b o,cn u ⟨b,o,none⟩ 0 c.cells->K ⟨b,o,none⟩)->bx la 1 0 36 K)/\
   u.heap[b1]?=z.heap[b1]?:=by
 have E:gi A aw g aM (λk=>k=b1) z A aw X:=gi.start H P λk Z=>by grind
 have y:bl z aW (jq [(r,t)]).flatten:=by simpa[jq]using w
 have d:=FV E.cw N (ts:=[(r,t)]) (pc:=pc) y (λx T=>by grind) (by simp) (sch:=sch) (sa:=sa) (sc:=sc) C D (most:=most) hm;have F:dP X.pure ([(r,t)].map Prod.snd) sch [] most=(bE,[j]):=M;rw[F]at d;refine aB d ?_;rintro v u R;obtain⟨B',W,h,G,q,n,O,J,p⟩:=E.op R;obtain⟨la,lc,U,rfl,e,s,Q,f⟩:=n;obtain⟨⟨c,t2⟩,rfl,l⟩:=wS e;have l:t2=j:=l;subst l;refine⟨_,rfl,la,lc,c,B',W,h,rfl,G,q,f (c,t2) (by simp),λK I=>?_,p b1 rfl⟩;have a:bl u la (([(c,t2)]:List (fh×bK conv)).map λx=>x.1.cells).flatten:=s.rd
 exact eQ (cells:=λx:fh×bK conv=>x.1.cells) (λx=>cu.len x.1) (by omega) a (i:=0) rfl rfl rfl λb o L _=>I b o L
end
def l8 (n y:Nat):bK conv:=A3 0 (v5 n y)
theorem O7 (f:1<=n/\n<=3)(g:y<14):iM (fZ n y) [] [0] (ay.fresh n 4 101) [l8 n y] (ay.fresh n 4 101) ma ⟨8,hJ⟩ λ_=>lO 12:=by
 refine⟨O5 f g (by omega),.inl rfl,rfl,λk c t a b=>?_⟩;have d:k=0:=by grind
 subst d;simp at a b;subst a b;exact .inl ⟨rfl,rfl,rfl,rfl,rfl,λe=>by grind,λe=>by grind,λe=>by grind,λ_=>⟨rfl,rfl⟩,by grind⟩
theorem PL:hC [] (ay.fresh n 4 101) ⟨8,hJ⟩ (λ_=>lO 12)=700:=by
 have b:(ay.fresh n 4 101).aF[0]?=some (hd n 0):=rfl;have c:hx (hd n 0):=λk l a=>by have a:=b9 a;unfold hd hU at a;simp only at a;obtain⟨z,aq,rfl⟩:=cW.1 a;rfl
 have:eR (ay.fresh n 4 101) 0=0:=by grind[eR,wb]
 unfold hC;rw[this];rfl
structure pP (n y:Nat)(sure:Bool)(F G:ay)(A:bn)(g:fp)(gr:Nat->c1):Prop where
 gd:gC (fZ n y) [] G A g gr
 rE:kf F G
 TC:∀ C,F.aF[0]?=some C->C.batch=none
 ev:cr F
 wt:hC [] G g gr<=700
 sure:sure=true->iJ (fZ n y) A
 clean:ek F
theorem RN {E:Env}{G:ay}{A:bn}{g:fp}{gr:Nat->c1}{t:fi}(j:1<=E.n)(h:gC E [] G A g gr)(b:o2 E A g t)(i:3<=t.a2.length):iJ E A:=by
 have a:=h.qp;obtain⟨l,k⟩:=b.aE;unfold fg at a;by_cases d:g.aE<=4
 ·obtain⟨_,_,_,o⟩:=b.run d
  grind
 ·obtain e | e | e:g.aE=6\/g.aE=7\/g.aE=8:=by omega
  ·rw[e]at a;exact a.1
  ·obtain⟨_,_,_,_,_,m,_,hm⟩:=b.ref e;rw[h.op (λc f=>by cases f) m]at hm;cases hm
  ·rw[(b.new e).2]at i
   grind
theorem Sj {F d:ay}(h:F.die ((0:Nat):Int)=(true,d)):∀ C,d.aF[0]?=some C->C.batch=none:=λC b=>by
 unfold ay.die at h;rw[g1]at h;cases a:F.aF[0]? with
 |none=>rw[a]at h;simp at h
 |some D=>
  rw[a]at h;simp only at h;split at h
  ·simp at h
  ·have h:=ey Prod.snd h;simp only at h;subst h;have c:=cS a;simp only[hD]at b;rw[kX c]at b;cases b;rfl
theorem pP.qy {sure:Bool}{F G:ay}{A:bn}{g:fp}{gr:Nat->c1}(h:pP n y sure F G A g gr):gM F G:=.inr h.rE
theorem Sk (p:1<=n/\n<=3)(r:y<14)(sch:a7)(most:Nat):∃ h f,dP (ay.fresh n 4 101) [l8 n y] sch [] most=(h,[f])/\f.bad=false/\cr h/\∃ j,h.die 0=(true,j)/\∃ G A g gr,pP n y (decide ((f.a2.length:Int)>=3)) j G A g gr:=by
 have au:=A1 p r;obtain⟨G,A,g,gr,i,_,hw,_⟩:=Pg au (rs:=[]) (λc o=>by cases o) (cs:=[0]) (by simp) (O7 p r) sch most;rw[PL]at hw;have b:cr (dP (ay.fresh n 4 101) [l8 n y] sch [] most).1:=cr.dP (cr.fresh (by omega) (by omega) (by omega)) _ _ _ _;have d:ek (dP (ay.fresh n 4 101) [l8 n y] sch [] most).1:=(ek.fresh n 4 101).dP _ _ _;generalize w:dP (ay.fresh n 4 101) [l8 n y] sch [] most=R at *;obtain⟨h,ts⟩:=R;have t:=i.len;simp only at i t b d;obtain⟨f,rfl⟩:∃ f,ts=[f]:=by
  cases ts with
  |nil=>grind
  |cons a l=>
   grind
 rcases i.gz 0 0 f rfl rfl with⟨_,e,k⟩ | ⟨o,_⟩
 ·subst e;obtain⟨j,s,u⟩:=i.gd.die;refine⟨h,f,rfl,k.bad,b,j,s,h,A,g,gr,i.gd,u,Sj s,?_,hw,λq=>?_,?_⟩
  ·have:=b.die ((0:Nat):Int)
   grind
  ·have q:=qK q;exact RN au.e.n.1 i.gd k (by omega)
  ·have:=d.die ((0:Nat):Int)
   grind
 grind
theorem D8 (f:1<=n/\n<=3)(o:y<14){x:aD}(i:x=⟨fmt 101 n,false⟩):qa x (hH y)=(hH y).map lN:=by
 obtain⟨h,_⟩:=y8 f;simp only[uF,gL,jt,gS,beq_iff_eq]at h;obtain⟨_,_,_,_,b⟩:=h;unfold qa;refine sk λl d=>?_
 obtain⟨p,l2⟩:=Cl d;have g:∀ k,k<8->x.get (l*8+k)=A0 0 k:=λk c=>by have:=b (l-96) (by omega) k c;rw[show l-96+96=l by omega]at this;rw[i];exact this
 have a:=g 0 (by omega);rw[mJ]at a;unfold vh aD.gP lN;simp only;rw[a,g 1 (by omega),g 2 (by omega),g 3 (by omega),g 4 (by omega),g 5 (by omega),g 6 (by omega),g 7 (by omega)];have e:uX .u64 256 255=256:=by decide
 have j:IntKind.u64.wrap (0+1)=1:=by decide
 show(⟨(l:Int),uX .u64 256 255,IntKind.u64.wrap (0+1),0,0,0,0,0,0⟩:aN)=_
 grind
theorem GZ:∀ p ∈ (hH y).map lN,G3 p:=λp b=>by obtain⟨l,_,rfl⟩:=cW.1 b;refine⟨⟨by show(0:Int)<=256;omega,by show(256:Int)<_;omega⟩,λx a=>?_⟩;simp[h7,lN]at a;rcases a with rfl | rfl<;>exact⟨by omega,by omega⟩
theorem CK (n y:Nat):nW (l8 n y):=λ_=>by show([]:a3).length<=200;simp
section
attribute [local irreducible] dP
theorem SW (cd:1<=n/\n<=3){bH aX:Int}(cT:dU bH)(cU:dU aX)(cz:bl w sa (is sch))(cA:∀ x ∈ sch,dU x) :
  a5 13 [.int .i64 n,.int .i64 bH,.int .i64 aX,.slice sa sch.length sc] w λv u=>∃ aM sure A aw X F G B g gr,v=.tuple #[ptr aM,.bool sure,.bool true]/\jQ w u aM A aw X F/\pP n (bH % 14).toNat sure F G B g gr:=by
 obtain⟨y,cY,T⟩:∃ y:Nat,(bH % 14).toNat=y/\y<14:=⟨(bH % 14).toNat,rfl,by omega⟩;obtain⟨cS,cZ,ca,bh,bm,c3,bk,G,B,g,gr,bj⟩:=Sk cd T sch (aX % 70).toNat
 rw[cY];refine ba Tryz.func13 ?_;rw[Y2];refine aB (Fx (n:=n) (c:=4) (lines:=101) (by omega) (by omega) (by omega)) ?_;rintro v bQ ⟨aM,A,aw,X,rfl,bV,br,bO,cV⟩;refine⟨_,_,rfl,dG rfl ?_⟩;refine aB (O6 cT) ?_;rw[cY];rintro v cl ⟨dx,cc,rfl,cy,M⟩;refine⟨_,_,_,rfl,?_⟩;have O:∀ (i:Nat) (x:g4),X.nodes[i]?=some x->x.n=⟨fmt 101 n,false⟩:=λi x cP=>by
  have:X.pure.nodes[i]?=some x.n:=by grind[bs.pure]
  rw[cV]at this;exact(List.mem_replicate.1 (b9 this)).2
 have de:X.nodes.length=n:=by
  have:X.pure.nodes.length=n:=by grind[ay.fresh]
  grind[bs.pure]
 obtain⟨x,cP⟩:∃ x,X.nodes[0]?=some x:=⟨_,b2 (by omega)⟩;have ah:=O 0 x cP;have hlen:x.n.words.length=808:=by
  rw[ah];obtain⟨h,_⟩:=y8 cd;simp only[uF,gL,beq_iff_eq]at h
  grind
 refine aB (D7 (bV.new M) (n:=n) (by omega) cP (by rw[ah]) (L:=hH y) (λl da=>by have:=Cl da;omega) (by grind[Cd]) cy 0 1) ?_;rintro v bw ⟨aZ,a0,a8,rfl,ae,al,r,cF⟩;rw[D8 cd T ah]at r;refine cu.aV (j2 0 1 101 aZ a0 (hH y).length a8) ⟨true,rfl,?_⟩;have di:=M.size;have dm:=ae.size;refine io (vs:=(j2 0 1 101 aZ a0 (hH y).length a8).cells) rfl (cu.single _) λb1 dr c7 aG cm=>?_
 refine dG rfl ?_;rintro bD bA;have N:ai dr bD:=by rw[bA];exact cR _
 clear bA;have db:=aG.lt;refine⟨λq=>ai bD q,ao.refl _ _,cu.aV (j2 0 1 101 aZ a0 (hH y).length a8) ⟨λq dg=>bX (ai.aj (N.new dg) aG) rfl,?_⟩⟩;have bq:ai bw bD:=cm.new N;have p:ai w bw:=br.new (M.new ae);have Y:cj A aw bw aM X:=bV.new (M.new ae);have bP:∀ k,A k->k<bQ.heap.size:=λk Q=>bV.low k Q
 have tail:∀ {z:an} {aW:ak},ai bD z->bl z aW (j2 0 1 101 aZ a0 (hH y).length a8).cells->a5 15 [ptr aM,.slice aW 1 1,.slice sa sch.length sc,.slice none 0 0,.int .i64 (aX % 70)] z λv aO=>∃ la lc,v=.slice la 1 lc/\∀ {bN:aJ},(∀ d q,av q b1 (cu.cells d) 45->d.sI=cZ.a2.length->d.sq=false->(∃ bI bK W,gi A aw bw aM (λk=>k=b1) q bI bK W/\W.pure=cS)->bN q)->bx la 1 0 36 λbF=>cu.ex λr1=>cn aO bF 0 r1.cells/\ej aO ⟨b1,0,none⟩ 0 r1.cells/\∀ q,q=cI aO ⟨b1,0,none⟩ 0 r1.cells->bN q:=λ{z aW} af ct=>by
  have j:ai bw z:=bq.new af;have cG:(hH y).length=((hH y).map lN).length:=by simp
  have dp:=af.size;have dn:=N.size;have cB:hb (λk=>A k\/k=b1) z (j2 0 1 101 aZ a0 (hH y).length a8) (l8 n y):=by
   refine ED ?_ (r.rd.new j) cG (by grind[Cd]) ?_ GZ
   ·exact(al.mono λk dd Q=>Q.resolve_right (by omega)).new j
   ·exact hv r.rd λk Q dA=>by
     have dy:=cF _ Q;have dz:=r.lt Q
     grind
  have ad:((aX % 70).toNat:Int)=aX % 70:=by omega
  have C:=EF Y j (b1:=b1) ⟨by omega,by omega⟩ (by grind[cr.fresh]) cB (CK n y) (pc:=1) ct (sch:=sch) (sc:=sc) (sa:=sa) (P2 cz (p.new j) λk Q=>Q.elim (bO k) λe=>(by have:=p.size;omega)) cA (most:=(aX % 70).toNat) (by omega) (by rw[cV];exact ca);rw[ad]at C;refine aB C ?_;rintro v aO ⟨la,lc,d,B',dB,du,rfl,b3,b7,bz,D,b_⟩;refine⟨_,rfl,la,lc,rfl,λ{bN} c5=>D _ λb o c9=>cu.aV d ⟨c9,?_⟩⟩;have cQ:av aO b1 (j2 0 1 101 aZ a0 (hH y).length a8).cells 45:=by exact b_.trans (ai.aj (N.new af) aG)
  refine dY (vs:=d.cells) cQ rfl (cu.single _) λq f cb=>?_
  have b5:=b3.local cb λk e=>e
  exact c5 d q f bz.f9 (bz.bad.trans bh) ⟨_,_,_,b5,b7⟩
 have fin:∀ d q,av q b1 (cu.cells d) 45->d.sI=cZ.a2.length->d.sq=false->(∃ bI bK W,gi A aw bw aM (λk=>k=b1) q bI bK W/\W.pure=cS)->∀ aP,aP=q.drew->∃ I:aJ,I aP/\∃ (bM:ak) (a s:Nat),(∀ u,I u->u.cell? ⟨b1,23,none⟩=some (.slice bM a s))/\Calls prog 22 #[ptr aM,.int .i64 0] aP λe aR=>∃ V:Bool,e=.returned (.bool V)/\I aR/\(bif V then(∃ a':Bool,(∀ u,I u->u.cell? ⟨b1,25,none⟩=some (.bool a'))/\∃ t sure A aw X F G B g gr,(.tuple #[ptr aM,.bool (decide ((a:Int)>=3)),.bool (!a')]:bf)=.tuple #[ptr t,.bool sure,.bool true]/\jQ w aR t A aw X F/\pP n y sure F G B g gr)else(∃ t sure A aw X F G B g gr,(.tuple #[ptr aM,.bool (decide ((a:Int)>=3)),.bool false]:bf)=.tuple #[ptr t,.bool sure,.bool true]/\jQ w aR t A aw X F/\pP n y sure F G B g gr)):=by
  rintro d q f K J ⟨bI,bK,W,b3,bb⟩ bC S;have R:ai q bC:=by rw[S];exact cR _
  clear S;have U:=ai.aj R f;have P:=b3.new R;refine⟨λv=>v.heap[b1]?=bC.heap[b1]?,rfl,_,_,_,λu hu=>av.cell (i:=23) (hu.trans U) rfl,?_⟩;have cp:W.bZ.length<=100000000:=by
   have cT:=bm.le
   grind[bs.pure]
  refine aB (G8 P.cw (by rw[bb];exact bm.cg.ok) cp 0) ?_;rintro v dq ⟨rfl,cW⟩;rw[bb,bk]at cW ⊢;obtain⟨dt,dC,dv,Z,b8,_,_,_,b0⟩:=P.op cW;refine⟨_,rfl,b0 b1 rfl,hc rfl ⟨_,λu hu=>av.cell (i:=25) (hu.trans U) rfl,aM,_,_,_,_,c3,G,B,g,gr,?_,⟨Z.cw,b8,Z.jg Y p bO,Z.owns Y p bO⟩,bj⟩⟩
  grind
 refine⟨?_,?_⟩
 ·rintro c4 c2 ab H;obtain⟨aH,E⟩:=bo ab H;clear H;refine⟨E,?_⟩;refine aB (q0 _ _ _ cU (by omega)) ?_;rintro v u8 ⟨rfl,ag⟩;obtain rfl:c2=u8:=ag.symm;rw[aQ (by omega)];refine⟨_,rfl,E,?_⟩;refine aB (tail E (fj aH (by simp))) ?_;rintro v aO ⟨la,lc,rfl,D⟩;refine⟨_,_,_,rfl,D λd q f K J bT=>?_⟩;exact fin d q f K J bT
 ·refine aB (q0 _ _ _ cU (by omega)) ?_;rintro v u8 ⟨rfl,ag⟩;obtain rfl:bD=u8:=ag.symm;rw[aQ (by omega)];refine⟨_,rfl,ao.refl _ _,?_⟩;rintro c4 c2 ab H;obtain⟨aH,E⟩:=bo ab H;clear H;refine aB (tail E (fj aH (by simp))) ?_;rintro v aO ⟨la,lc,rfl,D⟩;refine⟨_,_,_,rfl,D λd q f K J bT=>?_⟩;exact fin d q f K J bT
end
end
section
open dI
def kc (n c:Nat):fi:=A4 c ⟨(c:Int),1,101,j' n,0,2,0⟩
theorem EG {f:Nat->Nat}{k:Nat}:∀ {l:c6},(∀ c ∈ l,f c=k)->(l.map f).sum=l.length*k
 | [],_=>by simp
 |a::l,h=>by rw[iI,pO,h a fR,EG λc b=>h c (fG _ b),h3,uk];omega
theorem RO {sure:Bool}{F G:ay}{A:bn}{g:fp}{gr:Nat->c1}(h:pP n y sure F G A g gr){rs:c6}(b:∀ c ∈ rs,1<=c/\c<4):iM (fZ n y) rs rs F (rs.map (kc n)) G A g (λ_=>lO 12)/\hC rs G g (λ_=>lO 12)<=700+rs.length*1680:=by
 have d:=h.gd.join b;refine⟨⟨d,h.qy,by simp,λk c t a f=>?_⟩,?_⟩
 ·rw[fQ,a]at f;cases f;exact .inr ⟨b9 a,rfl,rfl,rfl,λe=>by have:12<=9:=e;omega,λe=>by have:12=10:=e;omega,λe=>by have:12=11:=e;omega,λ_=>⟨rfl,rfl⟩⟩
 ·have l:=h.wt;have j:(rs.map λc=>eR G c+h2 ((λ_=>lO 12) c).aE).sum=rs.length * 1680:=EG λc a=>by
   obtain⟨C,i,_,_,q⟩:=d.px c a;have:eR G c=0:=by unfold eR;rw[i];exact wb (q (by show 10<=12;omega)).2
   show eR G c+1680=1680;omega
  grind[hC,eR,rV]
end
section
open dF dI
def l9 (ns ns':List aD):Prop:=∀ (k:Nat) (gh:aD),ns'[k]?=some gh->∃ x,ns[k]?=some x/\∀ i,56<=i->i<168->gh.get i=x.get i
theorem l9.refl (ns:List aD):l9 ns ns:=λk x h=>⟨x,h,λ_ _ _=>rfl⟩
theorem l9.trans {a b c:List aD}(h:l9 a b)(j:l9 b c):l9 a c:=λk z aq=>by obtain⟨y,n,e⟩:=j k z aq;obtain⟨x,l,g⟩:=h k y n;exact⟨x,l,λi d f=>(e i d f).trans (g i d f)⟩
section
variable {cv:Conv}
theorem RP (F:ay){t:bK cv}(f:t.aL=(c:Int)):(br F t).1.nodes=F.nodes/\∀ k,k≠c->(br F t).1.aF[k]?=F.aF[k]?:=by
 have h:∀ (F:ay) (C:a9) (k:Nat),k≠c->(F.eo (c:Int) C).aF[k]?=F.aF[k]?:=λF C k d=>jN λe=>d (by simpa using e.symm)
 have g:(F.take (c:Int)).2.nodes=F.nodes/\∀ k,k≠c->(F.take (c:Int)).2.aF[k]?=F.aF[k]?:=by
  unfold ay.take;split
  ·exact⟨rfl,λ_ _=>rfl⟩
  ·repeat' split
   all_goals first | exact⟨rfl,λ_ _=>rfl⟩ | exact⟨rfl,λk d=>h _ _ k d⟩
 have i:∀ (F:ay) (vs:a_),(F.post (c:Int) vs).2.nodes=F.nodes/\∀ k,k≠c->(F.post (c:Int) vs).2.aF[k]?=F.aF[k]?:=λF vs=>by
  unfold ay.post;split
  ·exact⟨rfl,λ_ _=>rfl⟩
  ·repeat' split
   all_goals first | exact⟨rfl,λ_ _=>rfl⟩ | exact⟨rfl,λk d=>h _ _ k d⟩
 have j:∀ (F:ay) (t:bK cv),t.aL=(c:Int)->(gG F t).1.nodes=F.nodes/\∀ k,k≠c->(gG F t).1.aF[k]?=F.aF[k]?:=λF t f=>by
  have:=i F (cv.next t.bp t.a2).1;unfold gG;rw[f];repeat' split
  all_goals first | exact⟨rfl,λ_ _=>rfl⟩ | exact this
 unfold Go.Proofs.YtmkljjbioomepaaGreat.br;split
 ·exact⟨rfl,λ_ _=>rfl⟩
 ·rw[f];obtain⟨a,b⟩:=j (F.take (c:Int)).2 (t.rC (F.take (c:Int)).1) (by cases(F.take (c:Int)).1<;>exact f);exact⟨a.trans g.1,λk d=>(b k d).trans (g.2 k d)⟩
end
section
variable {E:Env}{rs:c6}{F G G':ay}{A:bn}{g:fp}{gr:Nat->c1}
theorem ff.of {A A':bn}(h:ff E A')(hm:dq E A A'):ff E A:=λm a=>by
 cases e:A.cX m with
 |false=>rfl
 |true=>exact(by rw[<-h m a];exact(hm.cX m e).symm)
theorem Sl (au:b8 E)(Q:∀ c ∈ rs,1<=c/\c<6)(h:gC E rs G A g gr){i:Nat}(R:fC i m G=some G'):(i=0->iL E A->G'.nodes=G.nodes)/\(i ∈ rs->ff E A->l9 G.nodes G'.nodes):=by
 obtain⟨C,l,x,w,y,t,al,z⟩:=iR.1 R;have a:l.pair.a1≠[]:=λe=>al (by grind)
 have D:m<E.n:=by have:=cS t;rw[h.rep.len]at this;grind
 have o:G'.nodes=G.nodes.set m (l.pair.step x).2.1:=by rw[z]
 refine⟨λe N=>?_,λJ O=>?_⟩
 ·subst e;obtain⟨K,u,F,H,I⟩:=h.cD;rw[w]at u;cases u;have f:g.aE<=4:=sd λp=>a ((I p).2 m l y)
  obtain⟨b,B⟩:=H f;obtain⟨v,e2,q,cx,d⟩:=xz h.ev w F y t a b;obtain⟨A',S,st⟩:=Hy au h.rep h.law h.qp h.tF f b d B;rw[o];exact(st.stay (N m D)).2
 ·obtain⟨K,u,F,H,I⟩:=h.px i J;rw[w]at u;cases u;have f:(gr i).aE<=9:=sd λp=>a ((I p).2 m l y)
  obtain⟨b,P⟩:=H f;obtain⟨v,e2,q,cx,d⟩:=xz h.ev w F y t a b;have s:=Ey au (h.mB i J).1 O d.at_;intro k gh r;rw[o]at r;by_cases e:m=k
  ·subst e;rw[kX (cS t)]at r;cases r;exact⟨x,t,λj L M=>FL d.ia s j L M⟩
  ·rw[jN e]at r;exact⟨gh,r,λ_ _ _=>rfl⟩
theorem SX (f:1<=E.n)(h:gC E rs G A g gr)(d:gM F G)(c:∀ C,F.aF[0]?=some C->C.az=[]):kf F G:=by
 rcases d with e | e
 ·subst e;obtain⟨C,a,b,_⟩:=h.cD;have:=b.az;rw[c C a]at this;have:(0:Nat)=E.n:=this;omega
 ·exact e
theorem kf.ne (d:1<=E.n)(h:gC E rs G A g gr)(c:kf F G):F≠G:=λe=>by subst e;obtain⟨C,a,b,_⟩:=h.cD;have:=b.az;rw[c.dead C a]at this;have:(0:Nat)=E.n:=this;omega
theorem N7 {F:ay}{C:a9}(a:F.aF[0]?=some C)(c:C.az=[])(x:fb):(F.step x).2.aF[0]?=some C:=by
 unfold ay.step;split
 ·unfold ay.iY;repeat' split
  all_goals exact a
 ·split
  ·exact a
  ·cases b:F.cC x.aL with
   |none=>exact a
   |some D=>
    simp only;split
    ·exact a
    ·by_cases e:x.aL.toNat=0
     ·unfold ay.cC at b;split at b
      ·cases b
      ·rw[e,a]at b;cases b;rw[c];exact a
     ·repeat' split
      all_goals first | exact a | exact(jN e).trans a
theorem Hm (au:b8 E){c:Nat}(aP:1<=c/\c<6)(ds:a7):∀ (f m:Nat) {F G:ay} {t:fi} {A:bn} {g:fp} {gr:Nat->c1},iM E [c] [c] F [t] G A g gr->kf F G->
  ∃ G' A' ah K,iM E [c] [c] (eG ds [] [] f m F [t]).1 (eG ds [] [] f m F [t]).2 G' A' ah K/\kf (eG ds [] [] f m F [t]).1 G'/\dq E A A'/\(ff E A'->l9 F.nodes (eG ds [] [] f m F [t]).1.nodes)/\(eG ds [] [] f m F [t]).1.aF[0]?=F.aF[0]?
 | 0,m,F,G,t,A,g,gr,h,P=>⟨G,A,g,gr,h,P,dq.refl E A,λ_=>l9.refl _,rfl⟩
 |f+1,m,F,G,t,A,g,gr,h,P=>by
  have Z:=au.e.n.1;have o:∀ k ∈ [c],1<=k/\k<6:=λk aZ=>by simp at aZ <;> omega
  have M:t.aL=(c:Int):=by
   rcases h.gz 0 c t rfl rfl with⟨e,_⟩ | ⟨_,aO⟩
   ·omega
   ·exact aO.cC
  obtain⟨H,J,q,b,_,_,bb⟩:=wI au o (by simp) [t] (pre:=[]) h;have b:iM E [c] [c] (br F t).1 [(br F t).2] H A J q:=b;have aH:p0 [c] H J q c:=bb 0 c (by simp) rfl;obtain⟨ad,fm⟩:=RP F M;have a:kf (br F t).1 H:=SX Z b.gd b.qy λC j=>P.dead C (by rw[<-fm 0 (by omega)];exact j)
  unfold eG;have aV:je F ds m []=F:=rfl;have a8:turns F [t]=((br F t).1,[(br F t).2]):=rfl;rw[aV,a8];simp only;cases d:(br F t).1.dd with
  |nil=>
   have e:e6 (br F t).1 [] m=(false,(br F t).1):=by unfold Go.Proofs.YtmkljjbioomepaaGreat.e6;rw[d];rfl
   rw[e,aQ (by simp)];exact⟨H,A,J,q,b,a,dq.refl E A,λ_=>by rw[ad];exact l9.refl _,fm 0 (by omega)⟩
  |cons x xs=>
   obtain⟨i,bj,I,bA,V,X,s,Q⟩:=FQ b.gd a (x:=x) (by rw[d];simp);have e:e6 (br F t).1 [] m=(true,I):=by unfold Go.Proofs.YtmkljjbioomepaaGreat.e6 jM;rw[aQ (by simp),d];exact X
   rw[e,bh rfl];obtain⟨bz,bC,av,bl,_,ab⟩:=FR au o b V (.inr s) λe=>cp e (a.ne Z b.gd)
   obtain⟨_,_,_,_,_,_,_,_,bk,_⟩:=FM au o b.gd V;obtain⟨s1,s2⟩:=Sl au o b.gd V;obtain⟨ag,af,ao,L,bm,bo,ae,bq,bx⟩:=Hm au aP ds f (m+1) bl s;have N:I.aF[0]?=F.aF[0]?:=by
    rw[<-fm 0 (by omega)];obtain⟨C,j⟩:∃ C,(br F t).1.aF[0]?=some C:=by
     obtain⟨C,j,_⟩:=b.gd.cD;have bD:=a.dead;cases aB:(br F t).1.aF[0]? with
     |some C=>exact⟨C,rfl⟩
     |none=>
      exfalso;have aR:=b.gd.o_;have a5:(br F t).1.aF.length=0:=by have:=Zv.1 aB;omega
      have Y:=a.gb 1 (by omega);rw[uq (by omega),b2 (by omega)]at Y;cases Y
    have:=N7 j (a.dead C j) x;rw[X]at this;rw[j];exact this
   refine⟨ag,af,ao,L,bm,bo,ab.trans ae,λz=>?_,bx.trans N⟩;have B:ff E A:=z.of (ab.trans ae);have R:l9 F.nodes I.nodes:=by
    rw[<-ad,a.nodes,s.nodes];rcases bk with W | aX
    ·
     have D:=Q W;have r:hp 0 (br F t).1.aF=[]:=by
      cases w:hp 0 (br F t).1.aF with
      |nil=>rfl
      |cons y ys=>
       exfalso;unfold ay.dd at d;rw[w]at d;have ba:y=x:=by simpa using(List.cons.inj d).1
       obtain⟨bH,C',aG,S⟩:=pe.1 (show y ∈ hp 0 (br F t).1.aF by rw[w];simp);obtain⟨bI,l',a0,a',rfl⟩:=pd.1 S;rw[<-ba]at D;have:(0:Int)<=-1:=D;omega
     have O:iL E A:=by
      rcases aH.2 (by simp)with p | p | ⟨C,j,U⟩
      ·have ok:=(b.gd.mB c (by simp)).1;unfold cQ at ok;rw[p]at ok;exact ok.1
      ·have ok:=(b.gd.mB c (by simp)).1;unfold cQ at ok;rw[p]at ok;obtain⟨c',u,T,_⟩:=ok;simp at u;exact cp u T
      ·exfalso;refine U λk l R=>?_
       rw[<-a.gb c (by omega)]at j;cases al:l.pair.a1 with
       |nil=>rfl
       |cons v vs=>have hm:(⟨-1,((0+c:Nat):Int),((0+k:Nat):Int)⟩:fb) ∈ hp 0 (br F t).1.aF:=pe.2 ⟨c,C,j,pd.2 ⟨k,l,R,by rw[al];simp,by simp⟩⟩;rw[r]at hm;cases hm
     rw[s1 W O];exact l9.refl _
    ·exact s2 aX B
   exact R.trans (bq z)
theorem PM (au:b8 E)(j:1<=c/\c<6){t:fi}(h:iM E [c] [c] F [t] G A g gr)(n:kf F G)(hm:hC [c] G g gr<most) :
  ∃ bE b G' A' d a,dP F [t] [] [] most=(bE,[b])/\iM E [c] [c] bE [b] G' A' d a/\kf bE G'/\b.en=true/\bE.dd=[]/\dq E A A'/\(ff E A'->l9 F.nodes bE.nodes)/\bE.aF[0]?=F.aF[0]?:=by
 have e:∀ k ∈ [c],1<=k/\k<6:=λk o=>by simp at o <;> omega
 obtain⟨_,_,_,_,_,_,_,q⟩:=AZ au e (cs:=[c]) (by simp) ([t].map bK.aL) [] most 0 h;obtain⟨f,p⟩:=q hm;obtain⟨G',A',d,a,i,r,s,u,w⟩:=Hm au j ([t].map bK.aL) most 0 h n;have l:dP F [t] [] [] most=eG ([t].map bK.aL) [] [] most 0 F [t]:=by unfold dP;rw[yZ f]
 generalize eG ([t].map bK.aL) [] [] most 0 F [t]=R at *;obtain⟨bE,ts⟩:=R;obtain⟨b,rfl⟩:=Cu.1 (i.len.trans rfl);exact⟨bE,b,G',A',d,a,l,i,r,f b (by simp),p,s,u,w⟩
end
end
section
section
variable {S a6:Type}{st:a6->S->Option S}
inductive Path (st:a6->S->Option S):Nat->S->S->Prop
 |nil {s:S}:Path st 0 s s
 |cons {k:Nat} {s s1 t:S} (i:a6):st i s=some s1->Path st k s1 t->Path st (k+1) s t
theorem Path.trans {s t:S}(h:Path st k s t):∀ {m:Nat} {u:S},Path st m t u->Path st (k+m) s u:=by
 induction h with
 |nil=>grind
 |cons i a _ c=>intro m u b;rw[Nat.succ_add_eq_add_succ];exact .cons i a (c b)
theorem Path.norm {s t:S}(h:Path st k s t):∀ {m:Nat} {u:S},Norm st m t u->Norm st (k+m) s u:=by
 induction h with
 |nil=>grind
 |cons i a _ c=>intro m u b;rw[Nat.succ_add_eq_add_succ];exact .cons i a (c b)
end
def fK (v:bc)(x:aD):Nat->aD×a7
 | 0=>(x,[])
 |e+1=>((exec v (v.v.pieces.getD e (0,0)) (fK v x e).1).1,(fK v x e).2++(exec v (v.v.pieces.getD e (0,0)) (fK v x e).1).2)
structure kg (c:Nat)(v:bc)(x:aD):Prop where
 pos:0<v.v.pieces.length
 ok:∀ (p:cH) (e:Nat),p.aL=c->p.inc=1->e<v.v.pieces.length->p.refusal v (fK v x e).1=0
def eY (v:bc)(x:aD):aD:=(fK v x v.v.pieces.length).1
def d9 (v:bc)(x:aD):cN:=⟨0,(fK v x v.v.pieces.length).2⟩
theorem Nh {v:bc}{x:aD}(h:kg c v x){p:cH}(a:p.aL=c)(b:p.inc=1){vs:a_}(al:p.a1=v::vs)(he:p.b4=e)(hw:p.words=(fK v x e).2)(d:e+1<v.v.pieces.length) :
  p.step (fK v x e).1=({p with b4:=e+1,words:=(fK v x (e+1)).2},(fK v x (e+1)).1,none):=by
 unfold cH.step;rw[al];simp only;rw[h.ok p e a b (by omega),aQ (by simp),he,bh d,hw];rfl
theorem N8 {v:bc}{x:aD}(h:kg c v x){p:cH}(a:p.aL=c)(b:p.inc=1){vs:a_}(al:p.a1=v::vs)(he:p.b4=e)(hw:p.words=(fK v x e).2)(d:e+1=v.v.pieces.length) :
  p.step (fK v x e).1=({p with a1:=vs,b4:=0,words:=[]},eY v x,some (d9 v x)):=by
 unfold cH.step;rw[al];simp only;rw[h.ok p e a b (by omega),aQ (by simp),he,aQ (by omega),hw];unfold eY d9 cH.done;rw[<-d,al];rfl
def iz (c j:Nat)(R:List (Nat×bc)):ct:=⟨⟨c,1,j,(R.filter λr=>r.2.node.toNat == j).map Prod.snd,0,[]⟩,(R.filter λr=>r.2.node.toNat == j).map Prod.fst⟩
def iv (n c:Nat)(R:List (Nat×bc)):List ct:=(List.range n).map λj=>iz c j R
def hZ (n c:Nat)(a b:Int)(R:List (Nat×bc))(ds:ck):a9:=⟨true,1,iv n c R,some ds,R.length,a,b⟩
def kd:Nat->a_->List (Nat×bc)
 | _,[]=>[]
 |q,v::vs=>(q,v)::kd (q+1) vs
theorem zS:∀ (vs:a_) (q:Nat),(kd q vs).length=vs.length
 | [],q=>rfl
 |v::vs,q=>by rw[kd,h3,zS vs,h3]
theorem Ce {R:List (Nat×bc)}(a:j<n):(iv n c R)[j]?=some (iz c j R):=by
 grind[iv,List.getElem?_range]
theorem L6 {R:List (Nat×bc)}{r:Nat×bc}:iz c j (R++[r])=if r.2.node.toNat=j then⟨{ (iz c j R).pair with a1:=(iz c j R).pair.a1++[r.2]},(iz c j R).bG++[r.1]⟩else iz c j R:=by
 unfold iz
 grind
theorem CO {n c:Nat}:∀ (vs:a_) (C:a9) (k:Nat) (R:List (Nat×bc)),C.az=iv n c R->(C.fB k vs).az=iv n c (R++kd k vs)
 | [],C,k,R,h=>by rw[kd,kV];exact h
 |v::vs,C,k,R,h=>by
  have e:(C.fe k v).az=iv n c (R++[(k,v)]):=by
   unfold a9.fe;simp only;rw[h];apply i_
   grind[Ce,L6,List.getElem?_eq_none,iv]
  show((C.fe k v).fB (k+1) vs).az=_;rw[CO vs _ (k+1) _ e,kd,ke];rfl
theorem LO {v:bc}{R:List (Nat×bc)}:iz c v.node.toNat ((k,v)::R)=⟨{ (iz c v.node.toNat R).pair with a1:=v::(iz c v.node.toNat R).pair.a1},k::(iz c v.node.toNat R).bG⟩:=by
 grind[iz]
theorem LP {v:bc}{R:List (Nat×bc)}(h:v.node.toNat≠j):iz c j ((k,v)::R)=iz c j R:=by
 grind[iz]
theorem Ni {v:bc}{R:List (Nat×bc)}:(iv n c ((k,v)::R)).set v.node.toNat (iz c v.node.toNat R)=iv n c R:=by
 apply i_;intro i;by_cases a:i<n
 ·grind[List.getElem?_set_self,iv,Ce,List.getElem?_set_ne,LP]
 grind[List.getElem?_eq_none,iv]
section
variable {cv:Conv}
def hA (F:ay)(j:Nat)(x:aD)(c:Nat)(C:a9):ay:={F with nodes:=F.nodes.set j x,aF:=F.aF.set c C}
def mY (c j k:Nat)(v:bc)(R:List (Nat×bc))(x:aD)(e:Nat):ct:=⟨{ (iz c j R).pair with a1:=v::(iz c j R).pair.a1,b4:=e,words:=(fK v x e).2},k::(iz c j R).bG⟩
def nS (n c:Nat)(a b:Int)(k:Nat)(v:bc)(R:List (Nat×bc))(ds:ck)(x:aD)(e:Nat):a9:={hZ n c a b ((k,v)::R) ds with az:=(iv n c ((k,v)::R)).set v.node.toNat (mY c v.node.toNat k v R x e)}
theorem EH {F:ay}{x:aD}{C:a9}{t:bK cv}(a:c<F.aF.length)(b:t.aL=(c:Int))(hw:0<C.waiting):br (hA F j x c C) t=(hA F j x c C,t):=by
 grind[v',ay.waiting,g1,hA,List.getElem?_set_self]
theorem Fn {F:ay}{x y:aD}{C D:a9}{l:ct}{t:bK cv}(b:c<F.aF.length)(e:j<F.nodes.length)(f:C.az[j]?=some l)(al:l.pair.a1≠[]){p:cH}{d:Option cN}(g:l.pair.step x=(p,y,d))(a:C.comes j l p d=D):jn c j (hA F j x c C,t)=some (br (hA F j y c D) t):=by
 have:fC c j (hA F j x c C)=some (hA F j y c D):=by
  grind[iR,List.length_eq_zero_iff,hA,List.getElem?_set_self,List.set_set]
 grind[jn]
theorem CF {F:ay}{n c k:Nat}{a b:Int}{v:bc}{R:List (Nat×bc)}{ds:ck}{x:aD}{t:bK cv}(d:c<F.aF.length)(o:F.nodes.length=n)(j:v.node.toNat<n)(h:t.aL=(c:Int))(f:kg c v x) :
  ∀ e,e<v.v.pieces.length->Path (jn (cv:=cv) c) e (hA F v.node.toNat (fK v x 0).1 c (nS n c a b k v R ds x 0),t) (hA F v.node.toNat (fK v x e).1 c (nS n c a b k v R ds x e),t)
 | 0,_=>.nil
 |e+1,he=>by
  have i:=CF d o j h f (a:=a) (b:=b) (k:=k) (R:=R) (ds:=ds) e (by omega);have hlen:v.node.toNat<(iv n c ((k,v)::R)).length:=by grind[iv]
  have g:jn c v.node.toNat (hA F v.node.toNat (fK v x e).1 c (nS n c a b k v R ds x e),t)=some (br (hA F v.node.toNat (fK v x (e+1)).1 c (nS n c a b k v R ds x (e+1))) t):=by
   refine Fn d (by omega) (l:=mY c v.node.toNat k v R x e) ?_ (by simp[mY]) (Nh f (p:=(mY c v.node.toNat k v R x e).pair) rfl rfl rfl rfl rfl he) ?_
   ·show((iv n c ((k,v)::R)).set v.node.toNat (mY c v.node.toNat k v R x e))[v.node.toNat]?=_
    grind
   ·unfold a9.comes nS;simp only[zA];rfl
  rw[EH d h (by show 0<((k,v)::R).length;simp)]at g;exact i.trans (.cons _ g .nil)
theorem N9 {F:ay}{x:aD}{C:a9}(b:F.nodes[j]?=some x)(a:F.aF[c]?=some C):hA F j x c C=F:=by unfold hA;rw[jE b,jE a]
theorem Nj {v:bc}{R:List (Nat×bc)}{ds:ck}{x:aD}(d:v.node.toNat<n):nS n c a b k v R ds x 0=hZ n c a b ((k,v)::R) ds:=by
 unfold nS;have:(iv n c ((k,v)::R)).set v.node.toNat (mY c v.node.toNat k v R x 0)=iv n c ((k,v)::R):=by refine jE ?_;rw[Ce d,LO];rfl
 rw[this];rfl
theorem N_ {F:ay}{v:bc}{R:List (Nat×bc)}{ds:ck}{x:aD}{t:bK cv}(g:F.aF[c]?=some (hZ n c a b ((k,v)::R) ds))(o:F.nodes.length=n)(s:F.nodes[v.node.toNat]?=some x)(r:t.aL=(c:Int))(d:kg c v x) :
  Path (jn (cv:=cv) c) v.v.pieces.length (F,t) (br (hA F v.node.toNat (eY v x) c (hZ n c a b R (ds.set k (d9 v x)))) t):=by
 have i:v.node.toNat<n:=by grind
 have h:=cS g;obtain⟨e,he⟩:∃ e,v.v.pieces.length=e+1:=⟨v.v.pieces.length-1,by have:=d.pos;omega⟩;have f:=CF h o i r d (a:=a) (b:=b) (k:=k) (R:=R) (ds:=ds) e (by omega);have j:hA F v.node.toNat (fK v x 0).1 c (nS n c a b k v R ds x 0)=F:=by rw[Nj i];exact N9 s g
 rw[j]at f;have hlen:v.node.toNat<(iv n c ((k,v)::R)).length:=by grind[iv]
 have q:jn c v.node.toNat (hA F v.node.toNat (fK v x e).1 c (nS n c a b k v R ds x e),t)=some (br (hA F v.node.toNat (eY v x) c (hZ n c a b R (ds.set k (d9 v x)))) t):=by
  refine Fn h (by omega) (l:=mY c v.node.toNat k v R x e) ?_ (by simp[mY]) (N8 d (p:=(mY c v.node.toNat k v R x e).pair) rfl rfl rfl rfl rfl he.symm) ?_
  ·show((iv n c ((k,v)::R)).set v.node.toNat (mY c v.node.toNat k v R x e))[v.node.toNat]?=_
   grind
  ·unfold a9.comes nS hZ
   grind[List.set_set,iv,mY,iz,Ni]
 rw[he];exact f.trans (.cons _ q .nil)
end
def bq:aD:=⟨[],true⟩
def cB:List aD->a_->List aD×ck
 |ns,[]=>(ns,[])
 |ns,v::vs=>((cB (ns.set v.node.toNat (eY v (ns.getD v.node.toNat bq))) vs).1,d9 v (ns.getD v.node.toNat bq)::(cB (ns.set v.node.toNat (eY v (ns.getD v.node.toNat bq))) vs).2)
def lH (c:Nat):List aD->a_->Prop
 | _,[]=>True
 |ns,v::vs=>v.node.toNat<ns.length/\kg c v (ns.getD v.node.toNat bq)/\lH c (ns.set v.node.toNat (eY v (ns.getD v.node.toNat bq))) vs
def jr (vs:a_):Nat:=(vs.map λv=>v.v.pieces.length).sum
theorem r8 (ns:List aD)(v:bc)(vs:a_):cB ns (v::vs)=((cB (ns.set v.node.toNat (eY v (ns.getD v.node.toNat bq))) vs).1,d9 v (ns.getD v.node.toNat bq)::(cB (ns.set v.node.toNat (eY v (ns.getD v.node.toNat bq))) vs).2):=rfl
theorem wT:∀ (vs:a_) (ns:List aD),(cB ns vs).1.length=ns.length/\(cB ns vs).2.length=vs.length
 | [],ns=>⟨rfl,rfl⟩
 |v::vs,ns=>by
  obtain⟨a,b⟩:=wT vs (ns.set v.node.toNat (eY v (ns.getD v.node.toNat bq)))
  grind[cB,List.length_set,List.length_cons]
section
variable {cv:Conv}
def eZ (F:ay)(ns:List aD)(c:Nat)(C:a9):ay:={F with nodes:=ns,aF:=F.aF.set c C}
theorem CP {n c:Nat}{a b:Int}{t:bK cv}(h:t.aL=(c:Int)):∀ (vs:a_) {F:ay} (D:ck),vs≠[]->F.aF[c]?=some (hZ n c a b (kd D.length vs) (D++List.replicate vs.length ⟨0,[]⟩))->F.nodes.length=n->lH c F.nodes vs->
  Path (jn (cv:=cv) c) (jr vs) (F,t) (br (eZ F (cB F.nodes vs).1 c (hZ n c a b [] (D++(cB F.nodes vs).2))) t)
 | [],F,D,f,_,_,_=>cp rfl f
 |v::vs,F,D,_,i,r,q=>by
  obtain⟨w,l,o⟩:=q;have s:F.nodes[v.node.toNat]?=some (F.nodes.getD v.node.toNat bq):=by
   grind
  have g:=N_ i r s h l;have e:(D++List.replicate (v::vs).length (⟨0,[]⟩:cN)).set D.length (d9 v (F.nodes.getD v.node.toNat bq))=(D++[d9 v (F.nodes.getD v.node.toNat bq)])++List.replicate vs.length ⟨0,[]⟩:=by
   grind
  rw[e]at g;have p:=cS i;have d:jr (v::vs)=v.v.pieces.length+jr vs:=by grind[jr]
  by_cases he:vs=[]
  ·subst he;have j:jr [v]=v.v.pieces.length:=by rw[d];rfl
   rw[j];have:cB F.nodes [v]=(F.nodes.set v.node.toNat (eY v (F.nodes.getD v.node.toNat bq)),[d9 v (F.nodes.getD v.node.toNat bq)]):=rfl
   grind[hA,eZ,kd]
  ·have hw:br (hA F v.node.toNat (eY v (F.nodes.getD v.node.toNat bq)) c (hZ n c a b (kd (D.length+1) vs) (D++[d9 v (F.nodes.getD v.node.toNat bq)]++List.replicate vs.length ⟨0,[]⟩))) t=_:=EH p h (by show 0<(kd (D.length+1) vs).length;grind [zS,List.length_pos_iff]);rw [hw] at g;have u:=CP h vs (F:=hA F v.node.toNat (eY v (F.nodes.getD v.node.toNat bq)) c (hZ n c a b (kd (D.length+1) vs) (D++[d9 v (F.nodes.getD v.node.toNat bq)]++List.replicate vs.length ⟨0,[]⟩))) (D++[d9 v (F.nodes.getD v.node.toNat bq)]) he (by
    grind[hA,List.getElem?_set_self,List.length_append]) (by grind[hA]) o (a:=a) (b:=b) (n:=n)
   rw[d];refine g.trans ?_;have k:eZ (hA F v.node.toNat (eY v (F.nodes.getD v.node.toNat bq)) c (hZ n c a b (kd (D.length+1) vs) (D++[d9 v (F.nodes.getD v.node.toNat bq)]++List.replicate vs.length ⟨0,[]⟩))) (cB (F.nodes.set v.node.toNat (eY v (F.nodes.getD v.node.toNat bq))) vs).1 c (hZ n c a b [] (D++[d9 v (F.nodes.getD v.node.toNat bq)]++(cB (F.nodes.set v.node.toNat (eY v (F.nodes.getD v.node.toNat bq))) vs).2))=eZ F (cB F.nodes (v::vs)).1 c (hZ n c a b [] (D++(cB F.nodes (v::vs)).2)):=by
    rw[r8];unfold eZ hA
    simp_all
   rw[<-k];exact u
def fl (n c:Nat)(a b:Int):a9:=⟨true,1,hU n c 1,none,0,a,b⟩
theorem N' {F:ay}(g:F.aF[c]?=some (fl n c a b)){vs:a_}(f:vs≠[])(i:vs.length<=1024)(j:hr F.nodes.length F.lines vs=0):F.post (c:Int) vs=(0,eZ F F.nodes c (hZ n c (IntKind.i64.wrap (a+1)) (IntKind.i64.wrap (b+vs.length)) (kd 0 vs) (List.replicate vs.length ⟨0,[]⟩))):=by
 unfold ay.post;rw[g1,g];simp only;rw[aQ (by simp[fl]),aQ (by simp[fl]),aQ (λe=>f (oL.1 e)),aQ (by omega),aQ (by grind)];have d:=CO (n:=n) (c:=c) vs (fl n c a b) 0 [] rfl;rw[qO]at d;have:(fl n c a b).j4 vs=hZ n c (IntKind.i64.wrap (a+1)) (IntKind.i64.wrap (b+vs.length)) (kd 0 vs) (List.replicate vs.length ⟨0,[]⟩):=by
  unfold a9.j4 hZ;dsimp only;rw[d,zS];have q:∀ (us:a_) (C:a9) (k:Nat),(C.fB k us).alive=C.alive/\(C.fB k us).inc=C.inc:=λus=>by
   induction us with
   |nil=>intro C k;exact⟨rfl,rfl⟩
   |cons u us h=>intro C k;exact h (C.fe k u) (k+1)
  grind[fl]
 rw[this];rfl
theorem NX {F:ay}{ds:ck}{t:bK cv}(e:t.aL=(c:Int))(i:t.en=false)(d:F.aF[c]?=some (hZ n c a b [] ds)):br F t=gG (eZ F F.nodes c (fl n c a b)) (t.rC (some ds)):=by
 unfold br;have f:F.alive t.aL=true:=by unfold ay.alive;rw[e,g1,d];rfl
 have g:F.waiting t.aL=0:=by unfold ay.waiting;rw[e,g1,d];rfl
 have h:F.take t.aL=(some ds,eZ F F.nodes c (fl n c a b)):=by unfold ay.take;rw[e,g1,d];rfl
 grind
end
section
variable {cv:Conv}
inductive Lone (cv:Conv)(c n L:Nat)(bp:cv.dV):Nat->List aD->a3->cv.O->List aD->a3->Prop
 |fin {ns:List aD} {G:a3}:G.length<=200->(cv.next bp G).2.2=true->Lone cv c n L bp 0 ns G (cv.next bp G).2.1 ns G
 |go {k:Nat} {ns ns':List aD} {G G':a3} {o:cv.O} {vs:a_}:G.length<=200->(cv.next bp G).2.2=false->(cv.next bp G).1=vs->vs≠[]->vs.length<=1024->hr n L vs=0->lH c ns vs->Lone cv c n L bp k (cB ns vs).1 (G++[(cB ns vs).2]) o ns' G'->Lone cv c n L bp (jr vs+k) ns G o ns' G'
theorem D9 {L:Nat}{i:cv.dV}{ns ns':List aD}{G G':a3}{o:cv.O}(h:Lone cv c n L i k ns G o ns' G'):∀ {F:ay} {t:bK cv} {a b:Int},F.aF[c]?=some (fl n c a b)->F.nodes=ns->F.nodes.length=n->F.lines=L->t.aL=(c:Int)->t.bp=i->t.a2=G->t.en=false->
  ∃ q b',Path (jn (cv:=cv) c) k (gG F t) (eZ F ns' c (fl n c q b'),⟨t.aL,t.bp,G',true,t.bad,o⟩):=by
 induction h with
 | @fin ns G N u=>
  intro F t a b l g z x p y M P;refine⟨a,b,?_⟩;have e:gG F t=(F,t.told):=by
   unfold gG
   grind
  have E:eZ F ns c (fl n c a b)=F:=by unfold eZ;rw[<-g,jE l]
  have H:t.told=⟨t.aL,t.bp,G,true,t.bad,(cv.next i G).2.1⟩:=by
   grind[bK.told]
  rw[e,E,H];exact .nil
 | @go k ns ns' G G' o vs N u Q w K S s _ R=>
  intro F t a b l g z x p y M P;subst g;have A:=N' l w K (by grind);generalize IntKind.i64.wrap (a+1)=d at A;generalize IntKind.i64.wrap (b+vs.length)=b1 at A;have e:gG F t=(eZ F F.nodes c (hZ n c d b1 (kd 0 vs) (List.replicate vs.length ⟨0,[]⟩)),t.told):=by
   unfold gG
   grind
  have T:=cS l;have f:t.told.en=false:=by grind[bK.told]
  have ww:∀ (X:List aD) (C D:a9),eZ (eZ F F.nodes c C) X c D=eZ F X c D:=λX C D=>by grind[eZ,List.set_set]
  have r:Path (jn (cv:=cv) c) (jr vs) (eZ F F.nodes c (hZ n c d b1 (kd 0 vs) (List.replicate vs.length ⟨0,[]⟩)),t.told) (br (eZ F (cB F.nodes vs).1 c (hZ n c d b1 [] (cB F.nodes vs).2)) t.told):=by have:=CP (cv:=cv) (n:=n) (a:=d) (b:=b1) (t:=t.told) p vs (F:=eZ F F.nodes c (hZ n c d b1 (kd 0 vs) (List.replicate vs.length ⟨0,[]⟩))) [] w (by grind[eZ,List.getElem?_set_self]) z s;rw[ww]at this;exact this
  rw[NX (t:=t.told) (n:=n) (a:=d) (b:=b1) (ds:=(cB F.nodes vs).2) p f (by grind[eZ,List.getElem?_set_self])]at r;have B:∀ (X Y:List aD) (C D:a9),eZ (eZ F X c C) Y c D=eZ F Y c D:=λX Y C D=>by grind[eZ,List.set_set]
  have J:eZ (eZ F (cB F.nodes vs).1 c (hZ n c d b1 [] (cB F.nodes vs).2)) (eZ F (cB F.nodes vs).1 c (hZ n c d b1 [] (cB F.nodes vs).2)).nodes c (fl n c d b1)=eZ F (cB F.nodes vs).1 c (fl n c d b1):=B _ _ _ _;have I:t.told.rC (some (cB F.nodes vs).2)={t.told with a2:=G++[(cB F.nodes vs).2]}:=by
   grind[bK.rC,bK.told]
  rw[J,I]at r;obtain⟨q,b',j⟩:=R (F:=eZ F (cB F.nodes vs).1 c (fl n c d b1)) (t:={t.told with a2:=G++[(cB F.nodes vs).2]}) (a:=d) (b:=b1) (by grind[eZ,List.getElem?_set_self]) rfl (by show(cB F.nodes vs).1.length=n;grind[wT]) x p y rfl f;refine⟨q,b',?_⟩;rw[e];rw[B]at j;exact r.trans j
end
end
end Go.Proofs.YtmkljjbioomepaaGreat
