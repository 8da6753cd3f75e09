import Derived.Test.YtmkljjbioomepaaGreatf14
import Derived.Test.YtmkljjbioomepaaGreatf10
set_option linter.all false
set_option maxHeartbeats 4000000
set_option maxRecDepth 100000
namespace Go.Proofs.YtmkljjbioomepaaGreat
open Go.Proofs.Tryz Go.bd
variable {A B L:a6}{K:(a6)->Prop}{b c aJ gc i j k n q tb:Nat}{g2:an}{u bF w z:aj}
section
def nR:List (bn->cq)->bn->cq
 | [],G=>sd G
 |f::a,G=>uA (f G) (nR a)
def qh (j:cJ):List (bn->cq):=[se j,j' j,uB j,oa j,nB j]
def runM (j:cJ)(G:bn):cq:=nR (qh j) G
def qi (R:cq):Int×Int:=if R.ok=true then(0,3)else R.out
theorem Vg:iv prog 172=true:=by kernel_rfl
theorem Vh:iv prog 173=true:=by kernel_rfl
theorem Vi:iv prog 174=true:=by kernel_rfl
theorem Vj:iv prog 175=true:=by kernel_rfl
theorem Vk:iv prog 176=true:=by kernel_rfl
def Bx (a0:Nat):au:=[.func (.func 172) #[ptr a0] #[],.func (.func 173) #[ptr a0] #[],.func (.func 174) #[ptr a0] #[],.func (.func 175) #[ptr a0] #[],.func (.func 176) #[ptr a0] #[]]
variable {A:a6}{w0 u:aj}{a0 tb:Nat}{r:cE}{bP:aU}{j:cJ}
theorem RF (b:ff w0 z a0 tb r bP j)(d:o8 j){T:eG}{G:bn}(c:eJ A w0 z tb T G)(a:f8 T)(g:i<5) :
  ∃ (f:FuncId) (F:bn->cq),(Bx a0)[i]?=some (.func (.func f) #[ptr a0] #[])/\(qh j)[i]?=some F/\iv prog f=true/\a9 f [ptr a0] z (kk A w0 z tb z.heap.size (F G)):=by
 have e:i=0\/i=1\/i=2\/i=3\/i=4:=by omega
 rcases e with rfl | rfl | rfl | rfl | rfl
 ·exact⟨_,_,rfl,rfl,Vg,Rw b d c a⟩
 ·exact⟨_,_,rfl,rfl,Vh,RE b c a⟩
 ·exact⟨_,_,rfl,rfl,Vi,QA b c a⟩
 ·exact⟨_,_,rfl,rfl,Vj,QB b d c a⟩
 ·exact⟨_,_,rfl,rfl,Vk,Ob b d c a⟩
theorem Ns {F:bn->cq}{l:List (bn->cq)}(h:l[i]?=some F)(G:bn):nR (l.drop i) G=uA (F G) (nR (l.drop (i+1))):=by have a:=dk h;rw[vR a];rw[bW a]at h;cases h;rfl
theorem EU (G:bn):(sd G).ask=none/\(sd G).dC=false:=⟨rfl,rfl⟩
theorem Fq {j:cJ}{G:bn}{a:Int}{ws:ba}{f:Int}(h:(nI j G a ws f).ok=true):(nI j G a ws f).ask=none/\(nI j G a ws f).dC=false:=by
 unfold nI at h ⊢;split
 ·exact EU G
 ·rename_i b;rw[aW b]at h
  grind[tA]
theorem Ok {j:cJ}{G:bn}(h:(j' j G).ok=true):(j' j G).ask=none/\(j' j G).dC=false:=by
 unfold j' at h ⊢
 grind
theorem Ol {j:cJ}{G:bn}(h:(oa j G).ok=true):(oa j G).ask=none/\(oa j G).dC=false:=⟨(tA h).1,(tA h).2.1⟩
theorem P4 {j:cJ}{G:bn}(h:(nB j G).ok=true):(nB j G).ask=none/\(nB j G).dC=false:=by
 unfold nB at h ⊢;split
 ·exact EU G
 ·rename_i a;rw[aW a]at h
  grind[tA]
theorem RG {j:cJ}(i:Nat)(F:bn->cq)(h:(qh j)[i]?=some F)(G:bn)(a:(F G).ok=true):(F G).ask=none/\(F G).dC=false:=by
 have c:=dk h;have b:i=0\/i=1\/i=2\/i=3\/i=4:=by grind[qh]
 rcases b with rfl | rfl | rfl | rfl | rfl<;>cases h
 ·exact Fq a
 ·exact Ok a
 ·exact Fq a
 ·exact Ol a
 grind[P4]
attribute [local irreducible] iv i_ l5
theorem Tq (C:ff w0 u a0 tb r bP j)(aL:o8 j){T:eG}{G:bn}(Z:eJ A w0 u tb T G)(N:f8 T) :
  a9 126 [ptr a0] u λv bF=>v=bG.val ⟨(qi (runM j G)).1,(qi (runM j G)).2⟩/\gH A w0 u tb u.heap.size (runM j G) bF:=by
 refine a' Tryz.func126 ?_;rw[ptr,Yw];rintro b1 bp L H;obtain⟨b,D⟩:=bo L H;have b:aq bp b1 (bG.cells ⟨0,0⟩) eQ:=b;clear H;rintro az b3 M I;obtain⟨d,E⟩:=bo M I;obtain⟨lN,d⟩:∃ lN,aq b3 az (Bx a0) lN:=⟨_,d⟩;clear I;have g:=D.new E;have s:=ai.ak E b;have aR:=s.lt;have aV:=d.lt;have a4:=Z.ak.lt;have ab:=C.ak.lt;have a1:=D.size;refine cP mix (λq env z=>∃ (i:Nat) (c:bn) (ae:au),q=5-i/\i<=5/\env=xZ ⟨b1,0,none⟩ (some ⟨az,0,none⟩) 5 5 5 i ae/\ff w0 z a0 tb r bP j/\(∃ T,eJ A w0 z tb T c/\f8 T)/\ao (λk=>k=tb) u z/\aq z b1 (bG.cells ⟨0,0⟩) eQ/\aq z az (Bx a0) lN/\runM j G=nR ((qh j).drop i) c) 5
  ⟨0,G,_,rfl,by omega,rfl,C.bK g,⟨T,Z.new g,N⟩,ao.b7 g,s,d,rfl⟩ ?_
 rintro q env z ⟨i,c,ae,rfl,br,rfl,l,⟨ag,y,w⟩,n,b,d,a⟩;rw[UH];refine a5 (λaZ=>?_) (λaP=>?_)
 ·obtain⟨f,F,aM,Y,U,O⟩:=RF l aL y w (i:=i) (by omega);rw[Ns Y]at a;refine dM (by omega) (by omega) ⟨_,d.cell (i:=0+i*1) (by rw[h_,Nat.mul_one];exact aM),?_⟩;refine rz U (xs:=#[ptr a0]) (by simp) ?_;refine aE O ?_;rintro v a7 ⟨rfl,p⟩;refine bG.aT ⟨(F c).out.1,(F c).out.2⟩ ⟨(F c).ok,rfl,?_⟩;refine dP (vs:=bG.cells ⟨(F c).out.1,(F c).out.2⟩) rfl (bG.single _) λbb a8 aI W o=>?_
  have V:=n.size;have S:=b.lt;have h:=(p.after n).new o;have t:aq a8 b1 (bG.cells ⟨0,0⟩) eQ:=ai.ak o (p.aC.ak b (by omega));have J:=ai.ak o (p.aC.ak d (by omega));unfold uA at a;cases ad:(F c).ok with
  |false=>
   rw[aW (by grind)]at a;refine fq rfl ?_;refine bG.aT ⟨(F c).out.1,(F c).out.2⟩ ⟨bJ W rfl,?_⟩;refine dI t rfl (bG.single _) λbs X R=>?_
   refine bG.aT ⟨(F c).out.1,(F c).out.2⟩ ⟨bJ X rfl,rfl,?_,?_⟩
   ·rw[a];unfold qi
    grind
   ·rw[a];exact h.put (ao.refl _ _) (ao.refl _ _) R (by omega) (by omega) (by omega) (by omega)
  |true=>rw[bm ad]at a;obtain⟨aB,hw⟩:=RG i F Y c ad;obtain⟨af,K,B⟩:=h.clean aB hw;rw[bq (x:=(i:Int)+1) (by omega) (by omega)];exact⟨5-(i+1),by omega,i+1,(F c).a_,_,rfl,by omega,rfl,(l.aC p.aC λk e=>by have bh:=l.kJ;have bk:=l.ne;grind).bK o,⟨af,K,B⟩,h.aC,t,J,a⟩
 ·have P:i=5:=by omega
  subst P;rw[WT,a];refine my b rfl 0 3 λa7 Q=>⟨rfl,?_⟩
  have ah:gH A w0 u tb z.heap.size (nR ((qh j).drop 5) c) z:=⟨n,ag,y,w.dC,w.e4⟩;have V:=n.size;have S:=b.lt;exact ah.put (ao.refl _ _) (ao.refl _ _) Q (by omega) (by omega) (by omega) (by omega)
end
section
def ea (j:cJ)(G:bn):bu×(Int×Int)×Bool:=
 if j.valid≠0 then([],(j.valid,0),true)else match (runM j G).ask with
 |some vs=>(vs,(0,0),false)
 |none=>if(runM j G).dC=true\/(runM j G).a_≠[]then([],(6,0),true)else([],qi (runM j G),true)
theorem Fs {T:eG}(ax:aq w tb T.cells pt):a9 118 [ptr tb] w λx w'=>x=.tuple #[.slice T.aa T.e4 T.ac,.bool (decide ((T.e4:Int)>0))]/\ai w w':=by
 refine a' Tryz.func118 ?_;rw[ptr,Zz];rintro w1 b;have a:ai w w1:=by rw[b];exact cC _
 clear b;exact⟨λy=>ai w1 y,ao.refl _ _,_,_,_,λy c=>(ai.ak (a.new c) ax).cell (i:=1) rfl,_,_,_,λy c=>(ai.ak (a.new c) ax).cell (i:=1) rfl,rfl,a⟩
theorem Ft {T:eG}(ax:aq w tb T.cells pt):a9 119 [ptr tb] w λx w'=>x=.bool (T.dC || decide ((T.fw:Int)>0))/\ai w w':=by
 refine a' Tryz.func119 ?_;rw[ptr,YZ];refine⟨T.dC,ax.cell (i:=2) rfl,?_⟩;cases T.dC
 ·exact dm rfl ⟨_,_,_,ax.cell (i:=0) rfl,rfl,ao.refl _ _⟩
 ·exact fq rfl ⟨rfl,ao.refl _ _⟩
def sg (w:aj)(j:cJ)(G:bn)(v:bl)(u:aj):Prop:=
 ∃ (aa:an) (ac:Nat) (a:List aI),v=.tuple #[.slice aa a.length ac,bG.val ⟨(ea j G).2.1.1,(ea j G).2.1.2⟩,.bool (ea j G).2.2]/\ai w u/\bh u aa (dQ a).flatten/\(∀ k,aP aa k->w.heap.size<=k)/\er (λk=>k<w.heap.size) u a (ea j G).1
theorem sg.nil {j:cJ}{G:bn}{o:Int×Int}{b:Bool}(h:ea j G=([],o,b))(c:ai w u):sg w j G (.tuple #[.slice none 0 0,bG.val ⟨o.1,o.2⟩,.bool b]) u:=
 ⟨none,0,[],by grind,c,.inl rfl,λk a=>b_ a nK,by rw[h];exact⟨rfl,λi v x ar=>by grind⟩⟩
theorem Gw {o:bG}(ax:aq u b o.cells eQ){K:bG->aK}(l:∀ j,ao (λk=>k=b) u j->K o j) :
  ∀ w1,w1=u.drew->∃ i:aK,i w1/\bG.ex λr=>(∀ y,i y->b6 y ⟨b,0,none⟩ 0 r.cells)/\dT w1 ⟨b,0,none⟩ 0 r.cells/\∀ a,a=cv w1 ⟨b,0,none⟩ 0 r.cells->bG.ex λres=>b6 a ⟨b,0,none⟩ 0 res.cells/\a=a/\K res a:=by
 rintro w1 d;have c:ai u w1:=by rw[d];exact cC _
 clear d;have f:=ai.ak c ax;refine⟨λy=>ai w1 y,ao.refl _ _,bG.aT o ⟨λy n=>bJ (ai.ak n f) rfl,?_⟩⟩;exact dI f rfl (bG.single _) λa h g=>bG.aT o ⟨bJ h rfl,rfl,l a ((ao.b7 c).trans g λ_ _ e=>e)⟩
theorem Tr {o:bG}(ax:aq u b o.cells eQ)(c f:Int){K:bG->aK}(n:∀ d,ao (λk=>k=b) u d->K ⟨c,f⟩ d) :
  dT u ⟨b,0,none⟩ 0 [(.int .i64 c),(.int .i64 f)]/\∀ j,j=cv u ⟨b,0,none⟩ 0 [(.int .i64 c),(.int .i64 f)]->∀ w1,w1=j.drew->∃ l:aK,l w1/\bG.ex λr=>(∀ y,l y->b6 y ⟨b,0,none⟩ 0 r.cells)/\dT w1 ⟨b,0,none⟩ 0 r.cells/\∀ a,a=cv w1 ⟨b,0,none⟩ 0 r.cells->bG.ex λres=>b6 a ⟨b,0,none⟩ 0 res.cells/\a=a/\K res a:=
 dI ax (vs:=bG.cells ⟨c,f⟩) rfl (bG.single _) λj i g=>Gw i λd h=>n d (g.trans h λ_ _ e=>e)
theorem P5 {r:cE}{j:cJ}(br:o4 w r j)(b5:j.valid=0->o8 j){Y:Nat}{G:bn}(b9:hO A w g2 G)(bq:Y=G.length)(bm:Y<=gc) :
  a9 92 [r.val,.slice g2 Y gc] w (sg w j G):=by
 refine a' Tryz.func92 ?_;rw[Kz];rintro b1 bp a8 aB;obtain⟨h,ah⟩:=bo a8 aB;have h:aq bp b1 r.cells 39:=h;clear aB;rintro az b3 bb aI;obtain⟨s,l⟩:=bo bb aI;have s:aq b3 az (bG.cells ⟨0,0⟩) eQ:=s;clear aI;have z:=ah.new l;have ch:=ah.size;have b_:=h.lt;have ca:=s.lt;refine cE.aT r ⟨bJ (ai.ak l h) rfl,?_⟩;refine aE (N_ (br.new z)) ?_;rintro v bz ⟨rfl,n⟩;have B:=z.new n;have I:=ai.ak n s;refine⟨_,rfl,dw (λar=>?_) (λar=>?_)⟩
 ·refine my I rfl j.valid 0 λcO bs=>sg.nil (o:=(j.valid,0)) (b:=true) ?_ (B.trans bs λk a e=>by omega)
  unfold ea
  grind
 have f:=Qy ar;have ab:=b5 ar;obtain⟨bP,ag⟩:∃ bP,j.v.mem[0]?=some bP:=⟨_,bW f.mem.1⟩;rintro bD aL;have p:ai bz bD:=by rw[aL];exact cC _
 clear aL;have C:=B.new p;have H:=ai.ak ((l.new n).new p) h;refine⟨λy=>ai bD y,ao.refl _ _,cE.aT r ⟨λy cx=>bJ (ai.ak cx H) rfl,?_⟩⟩;refine aE (F_ bD g2 Y gc) ?_;rintro v cy ⟨tb,rfl,cr,aV,d⟩;refine⟨_,rfl,d,?_⟩;rintro Z cA bh aM;obtain⟨X,q⟩:=bo bh aM;have X:aq cA Z (lS r tb ⟨0,0,false⟩) mn:=X;clear aM;have cm:=d.size;have bL:=C.size;have cj:=l.size;have ck:=n.size;have cl:=p.size;have cd:=aV.lt;refine⟨d.new q,c1.aT r.View ⟨bJ (ai.ak (d.new q) H) rfl,?_⟩⟩;obtain⟨cH,W⟩:=br.view;have D:=(C.new d).new q;refine aE (Di (W.new D) ag) ?_;rintro v u8 ⟨rfl,P⟩;have aZ:=ai.ak P X;refine aU.aT bP ⟨true,rfl,fU aZ (by simp[lS,aU.cells,cE.cells]) (aU.single _),?_⟩;rintro t V;have a1:aq t Z (lS r tb bP) mn:=by rw[V];exact aZ.cv (o:=8) (i:=0) (vs:=bP.cells)
 have ad:ao (λk=>k=Z) u8 t:=by rw[V];exact hD _ _ _ _ _
 clear V;have E:ai w t:=(D.new P).trans ad λk a e=>by omega
 have g:ai cy t:=(q.new P).trans ad λk a e=>by omega
 have aW:aq t tb (eG.cells ⟨g2,Y,gc,none,0,0,false⟩) pt:=ai.ak g aV;have aR:aq t az (bG.cells ⟨0,0⟩) eQ:=ai.ak ((p.new d).new g) I;have bk:ff w t Z tb r bP j:=⟨a1,br,f,ag,E,by omega,by omega,by omega⟩;have bX:eJ A w t tb ⟨g2,Y,gc,none,0,0,false⟩ G:=⟨aW,b9,bq,bm⟩;have O:=Tq bk ab bX ⟨rfl,rfl⟩;refine aE O ?_;rintro v cD ⟨rfl,U⟩;have cq:=g.size;have a4:aq cD az (bG.cells ⟨0,0⟩) eQ:=U.aC.ak aR (by omega);refine bG.aT ⟨(qi (runM j G)).1,(qi (runM j G)).2⟩ ⟨rfl,?_⟩;refine dI a4 rfl (bG.single _) λbN a5 ae=>?_
 have F:=(U.after (u:=w) (ao.b7 E)).put (B':=t.heap.size) (ao.refl _ _) (ao.refl _ _) ae (by omega) (by omega) (by omega) (dr _);have Q:ai w bN:=(ao.refl _ w).trans F.aC λk a e=>by omega
 have L:aq bN Z (lS r tb bP) mn:=ae.ak (U.aC.ak a1 (by omega)) (by omega);obtain⟨_,T,M,bY,N⟩:=F;refine⟨_,L.cell (i:=7) rfl,?_⟩;refine aE (Fs M.ak) ?_;rintro v cP ⟨rfl,c⟩;have J:=ai.ak c a5;cases x:(runM j G).ask with
 |some vs=>
  rw[x]at N;obtain⟨cK,w1,bR,cL,bH⟩:=N;have b4:=bH.len;refine⟨_,_,_,_,rfl,fq (by grind) ?_⟩;refine my J rfl 0 0 λbQ af=>?_
  have bV:bO w1 bQ T.aa T.e4 T.ac vs:=(bH.new c).aC af λk e=>by omega
  obtain⟨⟨a7,cf,aP⟩,cb,b6⟩:=bV;have cN:=aP.1;have cu:=bR.size;have bx:ea j G=(vs,(0,0),false):=by
   unfold ea
   grind
  refine⟨T.aa,T.ac,a7,?_,(Q.new c).trans af λk a e=>by omega,cf.rd,λk cM=>by grind,?_⟩
  ·grind
  ·rw[bx];exact aP.aC (ao.refl _ _) λk a e=>.inl (by omega)
 |none=>
  rw[x]at N;refine⟨_,_,_,_,rfl,dm (by grind) ?_⟩;refine⟨_,(ai.ak c L).cell (i:=7) rfl,?_⟩;refine aE (Ft (ai.ak c M.ak)) ?_;rintro v bQ ⟨rfl,R⟩;have K:=ai.ak R J;have bK:=M.fw;refine⟨_,rfl,?_⟩;cases hm:(T.dC || decide ((T.fw:Int)>0))with
  |true=>
   refine Tr K 6 0 λcG S=>sg.nil (o:=(6,0)) (b:=true) ?_ (((Q.new c).new R).trans S λk a e=>by omega)
   unfold ea
   grind
  |false=>
   refine Gw K λcG S=>sg.nil (o:=qi (runM j G)) (b:=true) ?_ (((Q.new c).new R).trans S λk a e=>by omega)
   unfold ea
   simp_all
end
section
def pv (v:bE):Prop:=1<=v.v.count
theorem pv.pieces {v:bE}(h:pv v):0<v.v.pieces.length:=by
 refine zu.2 (KO _ _ _ h ?_)
 grind[pv]
structure fI (p:db):Prop where
 mT:∀ v ∈ p.bj,pv v
 idle:p.bj=[]->p.b0=0
 zero:p.b0=0->p.words=[]
 hL:p.hL
theorem fI.done {p:db}(h:fI p):fI p.done:=by
 refine⟨λv ar=>h.mT v (tJ ar),λ_=>rfl,λ_=>rfl,?_⟩
 intro x xs a;have hm:x ∈ p.bj.tail:=by rw[show p.bj.tail=x::xs from a];grind
 exact(h.mT x (tJ hm)).pieces
theorem fI.step {p:db}(h:fI p)(n:aO):fI (p.step n).1:=by
 unfold db.step;split
 ·exact h
 ·rename_i x xs b;dsimp only;split
  ·exact h.done
  ·split
   ·rename_i a;refine⟨h.mT,λe=>?_,λe=>by grind,?_⟩
    ·grind
    ·intro y ys c
     grind
   ·exact h.done
theorem fI.post {p:db}(h:fI p){v:bE}(ar:pv v):fI {p with bj:=p.bj++[v]}:=by
 refine⟨λx a=>?_,λe=>by simp at e,h.zero,?_⟩
 ·rcases kh.1 a with c | c
  ·exact h.mT x c
  grind
 ·intro x xs a;cases b:p.bj with
  |nil=>simp[b]at a;rw[<-a.1];show p.b0<_;rw[h.idle b];exact ar.pieces
  |cons y ys=>simp[b]at a;rw[<-a.1];exact h.hL y ys b
theorem DX (p:db)(n:aO):(p.step n).1.a3=p.a3/\(p.step n).1.inc=p.inc/\(p.step n).1.node=p.node:=by
 unfold db.step;split
 ·grind
 ·dsimp only;split
  ·exact⟨rfl,rfl,rfl⟩
  ·split<;>exact⟨rfl,rfl,rfl⟩
theorem LN (p:db)(n:aO):((p.step n).2.2=none/\(p.step n).1.bj=p.bj)\/(∃ d,(p.step n).2.2=some d/\(p.step n).1.bj=p.bj.tail/\p.bj≠[]):=by
 unfold db.step;split
 ·grind
 ·rename_i a;dsimp only;split
  ·exact .inr ⟨_,rfl,rfl,by grind⟩
  ·split
   ·grind
   ·exact .inr ⟨_,rfl,rfl,by grind⟩
theorem KI {p:db}{x:bE}{n:aO}(h:p.refusal x n=0):n.down=false/\x.v.valid 5 (n.words.length / 8:Nat)=0:=by
 grind[db.refusal]
theorem Na {x:bE}{n:aO}(ar:x.v.valid 5 (n.words.length / 8:Nat)=0){pc:Int×Int}(c:pc ∈ x.v.pieces):(exec x pc n).1.words.length=n.words.length:=by
 obtain⟨d,a⟩:=y_ ar;obtain⟨i1,i2,i3,i4,i5,i6,i7,i8,i9,i10,i11⟩:=pI a;unfold aI.hb at i10;have b:=B_ _ _ _ (by omega) pc c;unfold exec;split
 ·rfl
 ·split
  ·grind[aO.write,List.length_append,List.length_take,List.length_drop]
  grind[aO.gz,aO.add]
theorem Eh {p:db}(h:fI p)(n:aO):(p.step n).2.1.words.length=n.words.length:=by
 unfold db.step;split
 ·rfl
 ·rename_i x xs b;dsimp only;split
  ·rfl
  ·rename_i c;have ar:=(KI (p:=p) (x:=x) (n:=n) (by omega)).2;have a:=h.hL x xs b
   grind[List.getElem?_eq_getElem,List.getElem_mem,Na]
theorem wm:∀ {ls:List cL}{j:Nat}{l l':cL},ls[j]?=some l->g5 (ls.set j l')+l.pair.bj.length=g5 ls+l'.pair.bj.length
 | [],j,l,l',h=>by grind
 |a::ls,0,l,l',h=>by grind[g5]
 |a::ls,j+1,l,l',h=>by have:=wm (ls:=ls) (j:=j) (l:=l) (l':=l') (by simpa using h);simp[g5]at this ⊢;omega
theorem zO:∀ {ls:List cL},g5 ls=0->∀ l ∈ ls,l.pair.bj=[]
 | [],_,l,h=>by grind
 |a::ls,b,l,h=>by
  simp[g5]at b;rcases gw.1 h with rfl | h
  ·exact b.1
  ·exact zO (by simp[g5];exact b.2) l h
structure Good (F:aH):Prop where
 ok:n_ F
 cR:∀ C ∈ F.aY,∀ l ∈ C.aG,fI l.pair
 or:∀ p ∈ F.b2,fI p
theorem aH.oA {F:aH}{c:Int}{C:bB}(h:F.cR c=some C):0<=c/\F.aY[c.toNat]?=some C:=by
 grind[aH.cR]
theorem Good.eW {F:aH}(h:Good F){C C':bB}(e:F.aY[i]?=some C)(c:t' F.nodes.length i C')(d:∀ l ∈ C'.aG,fI l.pair):Good {F with aY:=F.aY.set i C'}:=by
 refine⟨⟨h.ok.lines,h.ok.nodes,h.ok.words,by simpa using h.ok.aY,λk D a=>?_,h.ok.eC⟩,λD a=>?_,h.or⟩
 ·simp only[kg]at a;split at a
  ·grind
  ·exact h.ok.a3 k D a
 ·rcases m5 a with b | rfl
  ·exact h.cR D b
  grind
theorem Good.nS {F:aH}(h:Good F)(i:Nat){n':aO}(b:n'.words.length=F.lines*8):Good {F with nodes:=F.nodes.set i n'}:=by
 refine⟨⟨h.ok.lines,by simpa using h.ok.nodes,λn hm=>?_,h.ok.aY,by simpa using h.ok.a3,by simpa using h.ok.eC⟩,h.cR,h.or⟩;rcases m5 hm with a | rfl
 ·exact h.ok.words n a
 grind
theorem Good.take {F:aH}(h:Good F)(c:Int):Good (F.take c).2:=by
 unfold aH.take;cases i:F.cR c with
 |none=>exact h
 |some C=>
  obtain⟨p,d⟩:=aH.oA i;dsimp only;split
  ·exact h
  ·cases q:C.batch with
   |none=>exact h
   |some ds=>
    dsimp only;split
    ·exact h
    ·rename_i hw;have b:=h.ok.a3 _ _ d;have n:g5 C.aG=0:=by have:=b.waiting;omega
     refine h.eW d ⟨b.inc,b.aG,λj l f=>?_,b.waiting,?_,λg e=>by cases e⟩ (h.cR C (cu d))
     ·have a:=b.lane j l f;have o:=zO n l (cu f);refine⟨a.a3,a.inc,a.node,a.bZ,λk r=>?_,a.hL⟩;have:=a.bZ
      grind
     grind
theorem Om {F:aH}(h:Good F){c:Int}{ds:cw}(a:(F.take c).1=some ds):ds.length<=1024:=by
 unfold aH.take at a;cases b:F.cR c with
 |none=>grind
 |some C=>
  rw[b]at a;dsimp only at a;obtain⟨f,d⟩:=aH.oA b;split at a
  ·cases a
  ·cases e:C.batch with
   |none=>grind
   |some es=>
    rw[e]at a;dsimp only at a;split at a
    ·cases a
    ·cases a;have:=(h.ok.a3 _ _ d).batch.2
     grind
structure oo (n i:Nat)(inc:Int)(k:Nat)(ls:List cL):Prop where
 len:ls.length=n
 lane:∀ (j:Nat) (l:cL),ls[j]?=some l->F5 i inc j k l/\fI l.pair
 g5:g5 ls=k
def rQ (l:cL)(k:Nat)(v:bE):cL:=⟨{l.pair with bj:=l.pair.bj++[v]},l.bZ++[k]⟩
theorem KA {C:bB}{v:bE}{l:cL}(a:C.aG[v.node.toNat]?=some l):(C.gl k v).aG=C.aG.set v.node.toNat (rQ l k v):=by
 show C.aG.modify _ _=_;apply jb
 grind[List.getElem?_eq_some_iff,rQ]
theorem AH {α:Type}{l:List α}{x y:α}(a:i<l.length)(h:(l.set i x)[j]?=some y):(i=j/\y=x)\/(i≠j/\l[j]?=some y):=by
 grind
theorem oo.post {n i:Nat}{inc:Int}{k:Nat}{C:bB}(h:oo n i inc k C.aG){v:bE}(r:0<=v.node)(s:v.node<n)(ar:pv v):oo n i inc (k+1) (C.gl k v).aG:=by
 have b:v.node.toNat<C.aG.length:=by rw[h.len];omega
 have d:C.aG[v.node.toNat]?=some C.aG[v.node.toNat]:=bW b;rw[KA d];generalize C.aG[v.node.toNat]=p at d;refine⟨by simpa using h.len,λj l g=>?_,?_⟩
 ·rcases AH b g with⟨e,rfl⟩ | ⟨e,g⟩
  ·obtain⟨a,c⟩:=h.lane _ _ d;refine⟨⟨a.a3,a.inc,by rw[<-e];exact a.node,by simp[rQ,a.bZ],λq o=>?_,(c.post ar).hL⟩,c.post ar⟩;rcases kh.1 o with f | f
   ·have:=a.low q f;omega
   grind
  ·obtain⟨a,c⟩:=h.lane j l g;exact⟨⟨a.a3,a.inc,a.node,a.bZ,λq o=>by have:=a.low q o;omega,a.hL⟩,c⟩
 ·have:=wm (l':=rQ p k v) d;have t:(rQ p k v).pair.bj.length=p.pair.bj.length+1:=by simp[rQ]
  have f:=h.g5;omega
theorem oo.H_ {n i:Nat}{inc:Int}:∀ (vs:bu) (k:Nat) (C:bB),oo n i inc k C.aG->(∀ v ∈ vs,0<=v.node/\v.node<n/\pv v)->oo n i inc (k+vs.length) (C.gS k vs).aG
 | [],k,C,h,_=>h
 |v::vs,k,C,h,ar=>by
  obtain⟨a,b,c⟩:=ar v g_;have:=oo.H_ vs (k+1) (C.gl k v) (h.post a b c) λx d=>ar x (gm _ d)
  grind[bB.gS,List.length_cons,Nat.add_comm,Nat.add_assoc]
theorem B9:∀ (vs:bu)(k:Nat)(C:bB),(C.gS k vs).alive=C.alive/\(C.gS k vs).inc=C.inc
 | [],_,_=>⟨rfl,rfl⟩
 |v::vs,k,C=>by rw[bB.gS];exact B9 vs (k+1) (C.gl k v)
theorem Jg {nodes lines:Int}:∀ {vs:bu},jH nodes lines vs=0->∀ v ∈ vs,v.v.valid nodes lines=0
 | [],_,v,ar=>by grind
 |x::vs,h,v,ar=>by
  unfold jH at h;split at h
  ·rename_i a;exact b_ h a
  ·rename_i a;rcases gw.1 ar with rfl | ar
   ·omega
   ·exact Jg h v ar
theorem Good.post {F:aH}(h:Good F)(c:Int)(vs:bu):Good (F.post c vs).2:=by
 unfold aH.post;cases t:F.cR c with
 |none=>exact h
 |some C=>
  obtain⟨A,g⟩:=aH.oA t;have e:=h.ok.a3 _ _ g;dsimp only;split
  ·exact h
  rename_i D;split
  ·exact h
  rename_i E;split
  ·exact h
  rename_i x;split
  ·exact h
  rename_i y;split
  ·exact h
  rename_i i;have s:C.batch=none:=by simp_all
  have f:C.alive=true:=by grind
  have z:C.waiting=0:=by have:=e.batch.1;grind
  have n:g5 C.aG=0:=by rw[<-e.waiting];grind
  have o:∀ v ∈ vs,0<=v.node/\v.node<F.nodes.length/\pv v:=by intro v ar;obtain⟨p,r⟩:=y_ (Jg (Decidable.not_not.1 i) v ar);obtain⟨i1,i2,i3,i4,i5,i6,i7⟩:=pI r;exact⟨i5,i6,p⟩
  have k:C.aG.length=F.nodes.length:=by rw[e.aG,f];rfl
  have hinv:oo F.nodes.length c.toNat C.inc 0 C.aG:=by
   refine⟨k,λj l d=>?_,n⟩;have b:=e.lane j l d;refine⟨⟨b.a3,b.inc,b.node,b.bZ,λq w=>?_,b.hL⟩,h.cR C (cu g) l (cu d)⟩;have B:=b.low q w
   grind
  have a:=oo.H_ vs 0 C hinv o;rw[h_]at a;obtain⟨s1,s2⟩:=B9 vs 0 C;refine h.eW g ⟨?_,?_,λj l d=>?_,?_,?_,?_⟩ λl d=>?_
  ·show 0<=(C.gS 0 vs).inc/\(C.gS 0 vs).inc<=59;rw[s2];exact e.inc
  ·show(C.gS 0 vs).aG.length=if(C.gS 0 vs).alive then _ else _;rw[s1,f,a.len];rfl
  ·have:=(a.lane j l d).1
   grind[bB.kE]
  ·show vs.length=g5 (C.gS 0 vs).aG;rw[a.g5]
  ·grind[bB.kE]
  ·grind[bB.kE]
  ·obtain⟨j,u⟩:=eP.1 d;exact(a.lane j l u).2
theorem t'.comes {n i:Nat}{C:bB}(b:t' n i C){j:Nat}{l:cL}(r:C.aG[j]?=some l)(nd:aO)(x:fI l.pair):t' n i (C.comes j l (l.pair.step nd).1 (l.pair.step nd).2.2):=by
 have c:=b.lane j l r;have p:=(rG.1 r).1;obtain⟨s1,s2,u⟩:=DX l.pair nd;have g:=x.step nd;rcases LN l.pair nd with⟨s,t⟩ | ⟨d,s,t,w⟩
 ·rw[s];refine⟨b.inc,?_,λk l' a=>?_,?_,b.batch,b.full⟩
  ·show(C.aG.set j _).length=_;rw[tH];exact b.aG
  ·rcases AH p a with⟨e,rfl⟩ | ⟨e,a⟩
   ·exact⟨s1.trans c.a3,s2.trans c.inc,by rw[<-e];exact u.trans c.node,by show l.bZ.length=(l.pair.step nd).1.bj.length;rw[c.bZ,t],c.low,g.hL⟩
   ·exact b.lane k l' a
  ·have:=wm (l':={l with pair:=(l.pair.step nd).1}) r;show C.waiting=g5 (C.aG.set j {l with pair:=(l.pair.step nd).1});have hw:=b.waiting
   grind
 ·rw[s];have y:0<l.pair.bj.length:=zu.2 w;have o:((C.comes j l (l.pair.step nd).1 (some d)).batch.getD []).length=(C.batch.getD []).length:=by cases h:C.batch<;>simp[bB.comes,h]
  refine⟨b.inc,?_,λk l' a=>?_,?_,?_,?_⟩
  ·show(C.aG.set j _).length=_;rw[tH];exact b.aG
  ·rw[o];rcases AH p a with⟨e,rfl⟩ | ⟨e,a⟩
   ·refine⟨s1.trans c.a3,s2.trans c.inc,by rw[<-e];exact u.trans c.node,?_,λq z=>c.low q (tJ z),g.hL⟩;show l.bZ.tail.length=(l.pair.step nd).1.bj.length;rw[t,zv,zv,c.bZ]
   ·exact b.lane k l' a
  ·have:=wm (l':=⟨(l.pair.step nd).1,l.bZ.tail⟩) r;show C.waiting-1=g5 (C.aG.set j ⟨(l.pair.step nd).1,l.bZ.tail⟩);have hw:=b.waiting
   grind
  ·rw[o];have:=b.batch;show C.waiting-1<=_/\_;omega
  ·intro ds f;cases h:C.batch with
   |none=>simp[bB.comes,h]at f
   |some es=>simp[bB.comes,h]at f;rw[<-f,tH];exact b.full es h
theorem LO {C:bB}{l:cL}{nd:aO}(b:fI l.pair)(e:∀ l ∈ C.aG,fI l.pair):∀ l' ∈ (C.comes j l (l.pair.step nd).1 (l.pair.step nd).2.2).aG,fI l'.pair:=by
 intro l' a;cases c:(l.pair.step nd).2.2 with
 |none=>
  rw[c]at a;rcases m5 a with h | rfl
  ·grind
  ·exact b.step nd
 |some d=>
  rw[c]at a;rcases m5 a with h | rfl
  ·grind
  ·exact b.step nd
theorem Good.b2 {F:aH}(h:Good F){os:List db}(b:∀ p ∈ os,(0<=p.node/\p.node<F.nodes.length)/\fI p):Good {F with b2:=os}:=
 ⟨⟨h.ok.lines,h.ok.nodes,h.ok.words,h.ok.aY,h.ok.a3,λp a=>⟨(b p a).1.1,(b p a).1.2,(b p a).2.hL⟩⟩,h.cR,λp a=>(b p a).2⟩
theorem Good.hI {F:aH}(h:Good F):∀ p ∈ F.b2,(0<=p.node/\p.node<F.nodes.length)/\fI p:=λp a=>⟨⟨(h.ok.eC p a).1,(h.ok.eC p a).2.1⟩,h.or p a⟩
theorem Good.drop {F:aH}(h:Good F)(c:Int):Good (F.drop c).2:=by
 unfold aH.drop;split
 ·exact h
 ·exact h.b2 λp a=>h.hI p (zA a)
theorem Good.iu {F:aH}(h:Good F)(i:Nat):Good (F.iu i).2:=by
 unfold aH.iu;split
 ·exact h
 ·rename_i p g;split
  ·exact h
  ·rename_i n e;dsimp only;have hm:=cu g;have d:=h.or p hm;have hw:=h.ok.words n (cu e);have b:=h.nS p.node.toNat (n':=(p.step n).2.1) (by grind[Eh]);have f:=(h.hI p hm).1;have j:=(DX p n).2.2;refine b.b2 (os:=if(p.step n).1.bj.length=0 then F.b2.eraseIdx i else F.b2.set i (p.step n).1) λq a=>?_
   have hlen:(F.nodes.set p.node.toNat (p.step n).2.1).length=F.nodes.length:=by simp
   show(0<=q.node/\q.node<((F.nodes.set p.node.toNat (p.step n).2.1).length:Int))/\_;rw[hlen];split at a
   ·exact h.hI q (zA a)
   ·rcases m5 a with c | rfl
    ·exact h.hI q c
    ·exact⟨by grind,d.step n⟩
theorem Good.step {F:aH}(h:Good F)(x:ii):Good (F.step x).2:=by
 unfold aH.step;split
 ·exact h.iu _
 split
 ·exact h
 split
 ·exact h
 rename_i C e;obtain⟨g,a⟩:=aH.oA e;split
 ·exact h
 split
 ·rename_i l n c f;split
  ·exact h
  dsimp only;have hm:=cu a;have b:=h.cR C hm l (cu c);have hw:=h.ok.words n (cu f);have d:=h.nS x.node.toNat (n':=(l.pair.step n).2.1) (by grind[Eh]);refine d.eW a ?_ (LO b (h.cR C hm));have:=(h.ok.a3 _ _ a).comes c n b
  grind
 grind
theorem Good.die {F:aH}(h:Good F)(c:Int):Good (F.die c).2:=by
 unfold aH.die;cases o:F.cR c with
 |none=>exact h
 |some C=>
  obtain⟨t,b⟩:=aH.oA o;have f:=h.ok.a3 _ _ b;dsimp only;split
  ·exact h
  ·have i:=h.eW b (C':={C with alive:=false,aG:=[],batch:=none,waiting:=0}) ⟨f.inc,rfl,λj l a=>by grind,rfl,by simp,λds e=>by cases e⟩ (λl a=>by grind);refine i.b2 λp s=>?_
   rcases kh.1 s with d | d
   ·exact h.hI p d
   ·obtain⟨k,u⟩:=vZ.1 d;obtain⟨l,a,rfl⟩:=dD.1 k;obtain⟨j,g⟩:=eP.1 a;have n:=f.lane j l g;have q:=(rG.1 g).1;have r:=f.aG;refine⟨?_,h.cR C (cu b) l a⟩;rw[n.node]
    grind
theorem C4 (n i:Nat)(inc:Int)(j:Nat)(l:cL)(h:(ku n i inc)[j]?=some l):l=tl i inc j/\j<n:=by
 grind[ku,List.getElem?_eq_some_iff]
theorem LP (n i:Nat)(inc:Int):g5 (ku n i inc)=0:=by
 unfold ku g5;rw[rI];induction n with
 |zero=>rfl
 |succ n a=>rw[o1,lG,List.sum_append,a];rfl
theorem Good.fresh {n c lines:Nat}(y:1<=n/\n<=5)(u:1<=c/\c<=6)(b:98<=lines/\lines<=256):Good (aH.fresh n c lines):=by
 have o:∀ (j:Nat) (l:cL) (i:Nat),(ku n i 1)[j]?=some l->fI l.pair:=by intro j l i b;obtain⟨rfl,_⟩:=C4 _ _ _ _ _ b;exact⟨λv ar=>by grind[tl],λ_=>rfl,λ_=>rfl,λx xs e=>by grind[tl]⟩
 refine⟨⟨by simp[aH.fresh];omega,by simp[aH.fresh];omega,λx r=>?_,by simp[aH.fresh];omega,λi C d=>?_,λp g=>by simp[aH.fresh]at g⟩,λC d l b=>?_,λp g=>by simp[aH.fresh]at g⟩
 ·simp[aH.fresh]at r;rw[r.2];show(fmt lines n).length=lines*8;exact EX _ _
 ·have a:((List.range c).map (hN n))[i]?=some C:=d;rw[hS]at a;cases q:(List.range c)[i]? with
  |none=>grind
  |some k=>
   rw[q]at a;obtain⟨s,h⟩:=rG.1 q;simp at s h a;subst h;rw[<-a];refine⟨by simp[hN],by simp[hN,ku,aH.fresh],λj l b=>?_,?_,by simp[hN],λds e=>by grind[hN]⟩
   ·have f:=o j l i b;obtain⟨rfl,_⟩:=C4 _ _ _ _ _ b;exact⟨rfl,rfl,rfl,rfl,λk w=>by grind[tl],f.hL⟩
   ·show 0=g5 (ku n i 1);rw[LP]
 ·simp[aH.fresh]at d;obtain⟨i,_,rfl⟩:=d;obtain⟨j,t⟩:=eP.1 b;exact o j l i t
end
section
structure fa (A:a6)(av:bI)(w:aj)(aJ:Nat)(L:a6)(u:aj)(B:a6)(v5:bI)(X:bt):Prop where
 next:Next A B av v5 w u
 cn:b4 (λk=>B k\/L k) v5 u aJ X
 loc:∀ k,L k->w.heap.size<=k/\k<u.heap.size/\v5 k=.cF
theorem fa.start {av:bI}{c:aj}{X:bt}(h:b4 A av w aJ X)(d:ai w c)(b:∀ k,L k->w.heap.size<=k/\k<c.heap.size):fa A av w aJ L c A av X:=by
 refine⟨h.refl d,?_,λk a=>⟨(b k a).1,(b k a).2,h.fresh (b k a).1⟩⟩;refine(h.Cd d).mP (λk a=>?_) λk a=>.inl (h.fb k a)
 grind
theorem fa.op {av:bI}{l:bI}{X:bt}(t:fa A av w aJ L u B l X){F:aH}(p:dV (λk=>B k\/L k) l u aJ F bF K) :
  ∃ B' f h,fa A av w aJ L bF B' f h/\h.pure=F/\K (λk=>B' k\/L k)/\ao (λk=>B k\/L k) u bF/\(∀ k,k<u.heap.size->B' k\/L k->B k\/L k)/\(∀ k,L k->bF.heap[k]?=u.heap[k]?):=by
 obtain⟨A',f,h,n,q,s,r⟩:=p;have o:A'=λk=>gu A av f w k\/L k:=by
  funext k;apply propext;rw[n.iff k];constructor
  ·rintro(b | ⟨b,c | c,e⟩)
   ·exact .inl (.inl b)
   ·rcases(t.next.iff k).1 c with g | g
    ·grind
    ·exact .inl (.inr g)
   grind
  ·rintro((b | ⟨b,c,e⟩) | b)
   ·exact .inl b
   ·refine .inr ⟨fQ b t.next.aC.size,.inl ((t.next.iff k).2 (.inr ⟨b,c,e⟩)),?_⟩;by_cases a:l k=.cF
    ·exact a
    ·exact b_ e (t.next.grow k b a)
   ·obtain⟨_,c,e⟩:=t.loc k b;exact .inr ⟨c,.inr b,e⟩
 have j:ao (λk=>B k\/L k) u bF:=n.aC.mono λk _ a=>t.cn.fb k a
 refine⟨gu A av f w,f,h,⟨⟨t.next.aC.trans n.aC λk d a=>t.next.grow k d a,λk d a=>t.next.grow k d (n.grow k (fQ d t.next.aC.size) a),λk=>Iff.rfl⟩,o▸q,λk d=>?_⟩,s,o▸r,j,λk d a=>?_,λk d=>?_⟩
 ·obtain⟨b,c,e⟩:=t.loc k d;refine⟨b,fQ c n.aC.size,?_⟩;by_cases a:f k=.cF
  ·exact a
  ·exact b_ e (n.grow k c a)
 ·have i:A' k:=by grind
  rcases(n.iff k).1 i with g | g
  ·exact t.cn.fb k (n.grow k d g)
  grind
 ·obtain⟨_,c,e⟩:=t.loc k d;exact n.aC.block k c λa=>a e
theorem fa.local {av:bI}{e:bI}{X:bt}(t:fa A av w aJ L u B e X){S:a6}(c:ao S u bF)(b:∀ k,S k->L k):fa A av w aJ L bF B e X:=by refine⟨⟨t.next.aC.trans c λk f a=>?_,t.next.grow,t.next.iff⟩,t.cn.other c λk a=>⟨.inr (b k a),(t.loc k (b k a)).2.2⟩,λk d=>⟨(t.loc k d).1,fQ (t.loc k d).2.1 c.size,(t.loc k d).2.2⟩⟩;have:=(t.loc k (b k a)).1;omega
theorem fa.new {av:bI}{a:bI}{X:bt}(t:fa A av w aJ L u B a X)(b:ai u bF):fa A av w aJ L bF B a X:=
 t.local b λ_ h=>h.elim
theorem fa.done {av:bI}{b:bI}{X:bt}(t:fa A av w aJ L u B b X)(c:K B):dV A av w aJ X.pure u K:=
 ⟨B,b,X,t.next,t.cn.mP (λk a=>.inl a) (λk a=>(t.next.iff k).2 (.inl a)),rfl,c⟩
theorem gn.aC {A':a6}{a:an}{xs:au}(d:bh w a xs)(b:xs=[]\/gn A a)(c:∀ k,k<w.heap.size->A' k->A k):xs=[]\/gn A' a:=by
 rcases b with b | b
 ·grind
 ·by_cases e:xs=[]
  ·grind
  ·refine .inr ?_;cases a with
   |none=>trivial
   |some a=>intro hm;exact b (c _ (d.lt e) hm)
theorem hO.aC {A A':a6}{w w':aj}{a:an}{G:bn}(h:hO A w a G)(c:ao A w w')(b:∀ k,k<w.heap.size->A' k->A k):hO A' w' a G:=by obtain⟨rows,q,g,f,p⟩:=h;refine⟨rows,q,g.aC c f,gn.aC g f b,λi r ds n o=>?_⟩;obtain⟨d,e,j,l⟩:=p i r ds n o;exact⟨d.aC c e,gn.aC d e b,j.aC c b,l⟩
abbrev ps:bU:=42
abbrev Bj:bU:=100
theorem Lf (rows:List Row):∀ u ∈ kO rows,single u=true:=by intro u hu;simp only[kO,dD]at hu;obtain⟨r,_,rfl⟩:=hu;rfl
theorem On {G:bn}(a4:hO B z g2 G)(a9:G.length<=1000000){raw:List bR}{ds:cw}(R:aq z b (fL raw).flatten iT)(V:gX B z raw ds)(Z:¬ B b)(U:ds.length<=1024)(aB:∀ k,B k->k<z.heap.size)(a':n=raw.length)
  {K:Nat->an->Nat->Nat->aK} (q:∀ p ap cap af,z.heap.size<=p->hO B af ap (G++[ds])->G.length+1<=cap->ai z af->K p ap (G.length+1) cap af) :
  ∃ (ap:an) (j g:Nat),∃ ae,(Builtin.append_ #[ps,ps] ps #[(.slice none 0 0),(.slice g2 G.length gc)]).run prog z=.ok (.slice ap j g) ae/\∀ p O,p=ae.heap.size->O=ae.alloc (.cells #[.slice (some ⟨b,0,none⟩) n c] Bj)->
   ∃ (l:an) (d a:Nat),∃ Q,(Builtin.append_ #[ps,ps] ps #[(.slice ap j g),(.slice (some ⟨p,0,none⟩) 1 1)]).run prog O=.ok (.slice l d a) Q/\K p l d a Q:=by
 obtain⟨inf,ah,ax,N,aV⟩:=ft (T:=Bj) (z:=.slice none 0 0) (n:=1) (m:=24) (by kernel_rfl);obtain⟨rows,ad,a5,J,a1⟩:=a4;have ab:aZ z Bj inf.size none 0 0 []:=aZ.nil _ _ _;have a7:(kO rows).length=G.length:=by grind[kO]
 obtain⟨ap,cT,aE,M,w,Y,S⟩:=aZ.append (P:=prog) (t:=ps) (ty:=ps) Tryz.underlying42 ah ax (by rw[N];rfl) (by omega) ab (s:=g2) (m:=G.length) (c:=gc) (news:=kO rows) (by grind) a5 (Lf rows) (by omega) (by grind);have I:ai z aE:=Y.mono λk _ R=>by obtain⟨o,J⟩:=R;cases J
 have F:∀ k,aP ap k->z.heap.size<=k:=λk q=>by
  rcases S with e | e
  ·rw[e]at q;obtain⟨o,J⟩:=q;cases J
  ·rw[e]at q;obtain⟨o,J⟩:=q;grind
 refine⟨ap,0+G.length,cT,aE,M,?_⟩;rw[h_,qc]at w;rw[h_];refine oN Tryz.underlying42 ah ax (by rw[N];rfl) (by omega) w (vs:=[.slice (some ⟨b,0,none⟩) n c]) (by grind) (by intro v ar;simp at ar;subst ar;rfl) (by omega) (by omega) ?_;intro p l E D aT u H ag;have f:ai z D:=ti I H F;have a8:=I.size;refine q p l E D (by omega) ?_ u.le f;have W:∀ k,aP l k->z.heap.size<=k:=λk q=>by
  grind
 have C:kO rows++[.slice (some ⟨b,0,none⟩) n c]=kO (rows++[⟨some ⟨b,0,none⟩,c,raw⟩]):=by grind[kO]
 have L:bh D l (kO (rows++[⟨some ⟨b,0,none⟩,c,raw⟩])):=by rw[<-C];exact u.rd
 refine⟨rows++[⟨some ⟨b,0,none⟩,c,raw⟩],by grind,L,gF L λk q R=>?_,λi r es x y=>?_⟩
 ·grind
 ·rw[rF]at x y;rw[ad]at x;split at x
  ·rename_i A;rw[bm A]at y;obtain⟨aI,aL,aM,aR⟩:=a1 i r es x y;exact⟨aI.new f,aL,aM.aC (ao.b7 f) (λ_ _ h=>h),aR⟩
  ·rename_i A;rw [aW A] at y;have X:i - G.length=0:=by
    grind
   rw[X]at x y;simp at x y;subst x y;refine⟨e6 (ai.ak f R) (by grind),.inr Z,V.aC (ao.b7 f) (λ_ _ h=>h),U⟩
end
section
def mY (C:bB):Nat:=if C.alive then 1 else 0
def aH.e4 (F:aH):Nat:=(F.aY.map mY).sum
def ml (F:aH):Prop:=F.b2.length+5*F.e4<=1000
theorem AN:∀ {cs:List bB}{i:Nat}{C C':bB},cs[i]?=some C->((cs.set i C').map mY).sum+mY C=(cs.map mY).sum+mY C'
 | [],i,C,C',h=>by grind
 |a::cs,0,C,C',h=>by grind
 |a::cs,i+1,C,C',h=>by have:=AN (cs:=cs) (i:=i) (C:=C) (C':=C') (by simpa using h);simp at this ⊢;omega
structure cy (F:aH):Prop where
 ct:Good F
 g3:ml F
theorem cy.le {F:aH}(h:cy F):F.b2.length<=1000:=by have:=h.g3;grind[ml]
theorem ml.eW {F:aH}(h:ml F){C C':bB}(a:F.aY[i]?=some C)(b:C'.alive=C.alive):ml {F with aY:=F.aY.set i C'}:=by
 have:=AN (C':=C') a
 grind[mY,ml,aH.e4]
theorem cy.take {F:aH}(h:cy F)(c:Int):cy (F.take c).2:=by
 refine⟨h.ct.take c,?_⟩;unfold aH.take;cases b:F.cR c with
 |none=>exact h.g3
 |some C=>
  obtain⟨d,a⟩:=aH.oA b;dsimp only;split
  ·exact h.g3
  ·cases e:C.batch with
   |none=>exact h.g3
   |some ds=>
    dsimp only;split
    ·exact h.g3
    ·exact h.g3.eW a rfl
theorem cy.post {F:aH}(h:cy F)(c:Int)(vs:bu):cy (F.post c vs).2:=by
 refine⟨h.ct.post c vs,?_⟩;unfold aH.post;cases b:F.cR c with
 |none=>exact h.g3
 |some C=>
  obtain⟨d,a⟩:=aH.oA b;dsimp only;repeat' split
  all_goals first | exact h.g3 | exact h.g3.eW a (B9 vs 0 C).1
theorem cy.iu {F:aH}(h:cy F)(i:Nat):cy (F.iu i).2:=by
 refine⟨h.ct.iu i,?_⟩;unfold aH.iu;split
 ·exact h.g3
 ·split
  ·exact h.g3
  ·dsimp only;have:=h.g3;unfold ml aH.e4 at *
   grind
theorem cy.step {F:aH}(h:cy F)(x:ii):cy (F.step x).2:=by
 refine⟨h.ct.step x,?_⟩;unfold aH.step;split
 ·exact(h.iu _).g3
 split
 ·exact h.g3
 split
 ·exact h.g3
 rename_i C b;obtain⟨c,a⟩:=aH.oA b;split
 ·exact h.g3
 split
 ·rename_i l n d e;split
  ·exact h.g3
  dsimp only;refine ml.eW (F:={F with nodes:=_}) h.g3 a ?_;cases(l.pair.step n).2.2<;>rfl
 ·exact h.g3
theorem cy.drop {F:aH}(h:cy F)(c:Int):cy (F.drop c).2:=by
 refine⟨h.ct.drop c,?_⟩;unfold aH.drop;split
 ·exact h.g3
 ·have:=h.g3;unfold ml aH.e4 at *
  grind
theorem cy.die {F:aH}(h:cy F)(c:Int):cy (F.die c).2:=by
 refine⟨h.ct.die c,?_⟩;unfold aH.die;cases e:F.cR c with
 |none=>exact h.g3
 |some C=>
  obtain⟨k,b⟩:=aH.oA e;have d:=h.ct.ok.a3 _ _ b;dsimp only;split
  ·exact h.g3
  ·rename_i n;have a:C.alive=true:=by grind
   have l:=AN (C':={C with alive:=false,aG:=[],batch:=none,waiting:=0}) b;have f:mY C=1:=by grind[mY]
   have g:mY {C with alive:=false,aG:=[],batch:=none,waiting:=0}=0:=rfl;have i:((C.aG.map cL.pair).filter (λp=>decide (0<p.bj.length))).length<=C.aG.length:=by
    grind
   have j:C.aG.length<=5:=by rw[d.aG,a];exact h.ct.ok.nodes.2
   have:=h.g3
   grind[ml,aH.e4,List.length_append]
theorem cy.nS {F:aH}(h:cy F)(i:Nat){n':aO}(a:n'.words.length=F.lines*8):cy {F with nodes:=F.nodes.set i n'}:=⟨h.ct.nS i a,h.g3⟩
theorem cy.fresh {n c lines:Nat}(d:1<=n/\n<=5)(a:1<=c/\c<=6)(b:98<=lines/\lines<=256):cy (aH.fresh n c lines):=by
 refine⟨Good.fresh d a b,?_⟩;have:∀ (c:Nat),(((List.range c).map (hN n)).map mY).sum=c:=by
  intro c;induction c with
  |zero=>rfl
  |succ c e=>rw[o1,lG,lG,List.sum_append,e];rfl
 unfold ml aH.e4;show 0+5*(((List.range c).map (hN n)).map mY).sum<=1000
 grind
def kV (F:aH)(sch:ba)(n:Nat):Nat:=if n<sch.length then(sch.getD n 0 % (F.e5.length:Int)).toNat else 0
def dX (F:aH)(sch:ba)(n:Nat):Bool×aH:=match F.e5[kV F sch n]? with
 |none=>(false,F)
 |some x=>F.step x
theorem cy.dX {F:aH}(h:cy F)(sch:ba)(n:Nat):cy (dX F sch n).2:=by
 unfold Go.Proofs.YtmkljjbioomepaaGreat.dX;split
 ·exact h
 ·exact h.step _
theorem LQ {F:aH}(h:n_ F):F.e5.length<=30+F.b2.length:=by
 unfold aH.e5;rw[hi,rx];have c:=B6 (n:=5) 0 F.aY λC a=>by
  obtain⟨i,b⟩:=eP.1 a;have d:=(h.a3 i C b).aG;have e:=h.nodes.2
  grind
 have f:=h.aY.2;omega
theorem E_ {av:bI}{X:bt}(h:b4 A av w aJ X)(i:cy X.pure){sch:ba}{sa:an}{sc:Nat}(D:bh w sa (is sch))(B:∀ x ∈ sch,eb x)(n:Nat) :
  a9 35 [ptr aJ,.slice sa sch.length sc,.int .i64 n] w λv w'=>v=.bool (dX X.pure sch n).1/\dV A av w aJ (dX X.pure sch n).2 w' λ_=>True:=by
 have r:X.b2.length<=100000000:=by have:=i.le;grind[bt.pure]
 refine a' Tryz.func35 ?_;rw[ptr,JE];refine aE (Mt h i.ct.ok r) ?_;rintro v w1 ⟨a,cap,rfl,c⟩;have j:=h.new c.new;refine⟨_,_,_,rfl,dJ (λu=>?_) (λu=>?_)⟩
 ·have s:X.pure.e5=[]:=hh (by omega);have:dX X.pure sch n=(false,X.pure):=by grind[dX]
  rw[this];exact⟨rfl,dV.same h c.new trivial⟩
 ·refine a5 (λC=>?_) (λC=>?_)
  ·have q:n<sch.length:=by omega
   have y:sch[n]?=some sch[n]:=bW q;have z:(is sch)[n]?=some (.int .i64 sch[n]):=by grind[is]
   have k:=B _ (cu y);rcases D.new c.new with he | ⟨b,o,rfl,I⟩
   ·grind
   refine dM (by omega) (by omega) ⟨sch[n],by grind,?_⟩;have hlen:X.pure.e5.length<=1000000000:=by have G:=i.le;have H:=LQ i.ct.ok;omega
   refine aE (Fn _ _ _ k (by omega)) ?_;rintro v J ⟨rfl,rfl⟩;have l:0<=sch[n] % (X.pure.e5.length:Int)/\sch[n] % (X.pure.e5.length:Int)<X.pure.e5.length:=⟨zz _ (by omega),zx _ (by omega)⟩;rw[aW (by omega)];refine⟨_,rfl,?_⟩;have p:kV X.pure sch n=(sch[n] % (X.pure.e5.length:Int)).toNat:=by
    unfold kV
    grind
   have e:X.pure.e5[kV X.pure sch n]?=some X.pure.e5[kV X.pure sch n]:=bW (by omega);have g:dX X.pure sch n=X.pure.step X.pure.e5[kV X.pure sch n]:=by grind[dX]
   obtain⟨t,E,rfl,d,_⟩:=c.own.rd.row (CY _) (by omega) (CZ e);refine dM l.1 l.2 ?_;rw[<-p];refine⟨_,_,_,d,?_⟩;refine aE (EV j i.ct.ok X.pure.e5[kV X.pure sch n]) ?_;rintro v F ⟨rfl,f⟩;rw[g];exact⟨_,rfl,rfl,dV.trans (h.refl c.new) f⟩
  ·have p:kV X.pure sch n=0:=by unfold kV;grind
   have e:X.pure.e5[0]?=some X.pure.e5[0]:=bW (by omega);have g:dX X.pure sch n=X.pure.step X.pure.e5[0]:=by grind[dX]
   obtain⟨t,E,rfl,d,_⟩:=c.own.rd.row (CY _) (by omega) (CZ e);refine dM (by omega) (by omega) ?_;refine⟨_,_,_,d,?_⟩;refine aE (EV j i.ct.ok X.pure.e5[0]) ?_;rintro v F ⟨rfl,f⟩;rw[g];exact⟨_,rfl,rfl,dV.trans (h.refl c.new) f⟩
structure kc where
 at_:Int
 kind:Int
 a:Int
def kc.cells (e:kc):au:=[.int .i64 e.at_,.int .i64 e.kind,.int .i64 e.a]
def kc.val (e:kc):bl:=.agg e.cells.toArray
structure kc.uG (e:kc):Prop where
 at_:eb e.at_
 kind:eb e.kind
 a:eb e.a
def aH.nS (F:aH)(i:Nat)(f:aO->aO):aH:=match F.nodes[i]? with
 |none=>F
 |some n=>{F with nodes:=F.nodes.set i (f n)}
def Ts (n:aO):aO:={n with down:=true}
def A2 (n:aO):aO:=n.back.1
theorem Nb (n:aO):(A2 n).words.length=n.words.length:=by
 grind[A2,aO.back]
theorem cy.IK {F:aH}(h:cy F)(i:Nat){f:aO->aO}(a:∀ n,(f n).words.length=n.words.length):cy (F.nS i f):=by
 unfold aH.nS;split
 ·exact h
 ·rename_i n b;exact h.nS i (by rw[a];exact h.ct.ok.words n (cu b))
def aH.vg (F:aH)(cs:ba)(e:kc):aH:=
 if e.kind % 4=0 then(if cs.length=0 then F else(F.die (cs.getD (e.a % (cs.length:Int)).toNat 0)).2)
 else if e.kind % 4=1 then F.nS (e.a % (F.nodes.length:Int)).toNat Ts
 else if e.kind % 4=2 then F.nS (e.a % (F.nodes.length:Int)).toNat A2
 else(F.drop (e.a % 3)).2
theorem cy.vg {F:aH}(h:cy F)(cs:ba)(e:kc):cy (F.vg cs e):=by
 unfold aH.vg;split
 ·split
  ·exact h
  ·exact h.die _
 ·split
  ·exact h.IK _ λ_=>rfl
  ·split
   ·exact h.IK _ Nb
   ·exact h.drop _
end
section
structure Conv where
 ed:Type
 O:Type
 next:ed->bn->bu×O×Bool
structure ca (c:Conv) where
 a3:Int
 job:c.ed
 a_:bn
 eU:Bool
 bad:Bool
 out:c.O
section
variable {c:Conv}
def ca.told (t:ca c):ca c:={t with eU:=(c.next t.job t.a_).2.2,out:=(c.next t.job t.a_).2.1}
def ca.Bw (t:ca c):Option cw->ca c
 |none=>t
 |some d=>{t with a_:=t.a_++[d]}
def ca.fail (t:ca c):ca c:={t with eU:=true,bad:=true}
def kd (F:aH)(t:ca c):aH×ca c:=
 if 200<t.a_.length then(F,t.fail)else if(c.next t.job t.a_).2.2=true then(F,t.told)
 else if(F.post t.a3 (c.next t.job t.a_).1).1≠0 then((F.post t.a3 (c.next t.job t.a_).1).2,t.told.fail)else((F.post t.a3 (c.next t.job t.a_).1).2,t.told)
def b5 (F:aH)(t:ca c):aH×ca c:=
 if t.eU=true\/F.alive t.a3=false\/0<F.waiting t.a3 then(F,t)else kd (F.take t.a3).2 (t.Bw (F.take t.a3).1)
def turns:aH->List (ca c)->aH×List (ca c)
 |F,[]=>(F,[])
 |F,t::ts=>((turns (b5 F t).1 ts).1,(b5 F t).2::(turns (b5 F t).1 ts).2)
def k8 (F:aH)(cs:ba)(n:Nat):List kc->aH
 | []=>F
 |e::es=>k8 (if e.at_ % 60=n then F.vg cs e else F) cs n es
def iU (cs sch:ba)(es:List kc):Nat->Nat->aH->List (ca c)->aH×List (ca c)
 | 0,_,F,l=>(F,l)
 |f+1,n,F,l=>
  if(dX (turns (k8 F cs n es) l).1 sch n).1=true then iU cs sch es f (n+1) (dX (turns (k8 F cs n es) l).1 sch n).2 (turns (k8 F cs n es) l).2
  else((dX (turns (k8 F cs n es) l).1 sch n).2,(turns (k8 F cs n es) l).2)
def iD (F:aH)(l:List (ca c))(sch:ba)(es:List kc)(most:Nat):aH×List (ca c):=
 turns (iU (l.map ca.a3) sch es most 0 F l).1 (iU (l.map ca.a3) sch es most 0 F l).2
def l_ (F:aH)(t:ca c):aH×List (ca c):=iD F [t] [] [] 20000
theorem cy.tail {F:aH}(h:cy F)(t:ca c):cy (kd F t).1:=by
 unfold kd;split
 ·exact h
 ·split
  ·exact h
  ·split
   ·exact h.post _ _
   ·exact h.post _ _
theorem cy.b5 {F:aH}(h:cy F)(t:ca c):cy (b5 F t).1:=by
 unfold Go.Proofs.YtmkljjbioomepaaGreat.b5;split
 ·exact h
 ·exact(h.take _).tail _
theorem cy.turns:∀ (l:List (ca c)){F:aH},cy F->cy (turns F l).1
 | [],_,h=>h
 |t::l,F,h=>by unfold Go.Proofs.YtmkljjbioomepaaGreat.turns;exact cy.turns l (h.b5 t)
theorem cy.k8 {cs:ba}{n:Nat}:∀ (es:List kc) {F:aH},cy F->cy (k8 F cs n es)
 | [],F,h=>h
 |e::es,F,h=>by
  unfold Go.Proofs.YtmkljjbioomepaaGreat.k8;refine cy.k8 es ?_;split
  ·exact h.vg cs e
  ·exact h
theorem cy.iU (cs sch:ba)(es:List kc):∀ (f n:Nat) {F:aH} (l:List (ca c)),cy F->cy (iU cs sch es f n F l).1
 | 0,_,_,_,h=>h
 |f+1,n,F,l,h=>by
  unfold Go.Proofs.YtmkljjbioomepaaGreat.iU;have a:=(cy.turns l (cy.k8 (cs:=cs) (n:=n) es h)).dX sch n;split
  ·exact cy.iU cs sch es f (n+1) _ a
  ·exact a
theorem cy.iD {F:aH}(h:cy F)(l:List (ca c))(sch:ba)(es:List kc)(most:Nat):cy (iD F l sch es most).1:=cy.turns _ (cy.iU _ _ _ _ _ _ h)
def ma (t:ca c):Prop:=t.eU=false->t.a_.length<=200
theorem LR {F:aH}{t:ca c}:ma (kd F t).2:=by
 unfold kd;split
 ·intro e;cases e
 ·rename_i a;split
  ·intro _;show t.a_.length<=200;omega
  ·split
   ·intro e;cases e
   ·intro _;show t.a_.length<=200;omega
theorem LS {F:aH}{t:ca c}(h:ma t):ma (b5 F t).2:=by
 grind[b5,LR]
structure mq (Df:aH)(e7:List (ca c))(i:Nat)(F:aH)(l:List (ca c)):Prop where
 cn:(turns F (l.drop i)).1=(turns Df e7).1
 rest:l.take i++(turns F (l.drop i)).2=(turns Df e7).2
 len:l.length=e7.length
theorem mq.start (F:aH)(l:List (ca c)):mq F l 0 F l:=⟨rfl,rfl,rfl⟩
theorem mq.step {b F:aH}{f l:List (ca c)}(h:mq b f i F l){t:ca c}(j:l[i]?=some t):mq b f (i+1) (b5 F t).1 (l.set i (b5 F t).2):=by
 obtain⟨a,he⟩:=rG.1 j;obtain⟨g,d,k⟩:=h;rw[vR a,he,turns]at g d;refine⟨?_,?_,by grind⟩
 ·grind[List.drop_set_of_lt]
 ·rw [List.drop_set_of_lt (by omega),<-d];rw [Z_ (by grind)];have e:List.take i (l.set i (b5 F t).2)=List.take i l:=by
   apply jb
   grind
  grind
theorem mq.done {a F:aH}{b l:List (ca c)}(h:mq a b i F l)(g:i=l.length):turns a b=(F,l):=by
 obtain⟨d,e,f⟩:=h
 grind[List.drop_length,turns,List.take_length,Prod.ext]
theorem v8:∀ (F:aH)(l:List (ca c)),(turns F l).2.length=l.length
 | _,[]=>rfl
 |F,t::ts=>by simp[turns,v8]
theorem CI (cs sch:ba)(es:List kc):∀ (f n:Nat) (F:aH) (l:List (ca c)),(iU cs sch es f n F l).2.length=l.length
 | 0,_,_,_=>rfl
 |f+1,n,F,l=>by
  unfold iU;split
  ·rw[CI,v8]
  ·exact v8 _ _
theorem Nc (F:aH)(t:ca c):∃ a,(l_ F t).2=[a]:=by
 have:(l_ F t).2.length=1:=by grind[l_,iD,v8,CI]
 grind[List.length_eq_one_iff]
end
def m' (A:a6)(u:aj)(a:an)(xs:au):Prop:=bh u a xs/\(xs=[]\/gn A a)
theorem m'.aC {A A':a6}{w w':aj}{a:an}{xs:au}(h:m' A w a xs)(c:ao A w w')(b:∀ k,k<w.heap.size->A' k->A k):m' A' w' a xs:=⟨h.1.aC c h.2,gn.aC h.1 h.2 b⟩
theorem aZ.VX {e sz cap g:Nat}{rows:List au}(h:aZ w e sz (some ⟨g,0,none⟩) n cap rows.flatten)(c:∀ r ∈ rows,r.length=sz)(l:rows.length=n)(j:i<n){vs:au}(ar:vs.length=sz)(d:∀ v ∈ vs,single v=true) :
  dT w ⟨g,i*sz,none⟩ 0 vs/\aZ (cv w ⟨g,i*sz,none⟩ 0 vs) e sz (some ⟨g,0,none⟩) n cap (rows.set i vs).flatten:=by
 subst l;rcases h.2 with⟨he,_⟩ | ⟨t,cur,he,a,b,hm,u,s⟩
 ·cases he
 ·simp at he;subst he;have f:=lT c;have k:i*sz+sz<=rows.length*sz:=by rw[<-tE];exact rB _ j
  have p:rows.length*sz<=cap*sz:=rB _ b;refine⟨fU a (by omega) d,?_⟩;have q:=a.cv (o:=i*sz) (i:=0) (vs:=vs);refine⟨?_,.inr ⟨g,_,rfl,q,b,hm,?_,?_⟩⟩
  ·rw[lT (sz:=sz),tH]
   grind
  ·rw[pS (by omega)]
   grind
  ·rw[<-CL c (by omega) ar,m1,pS (by omega),pS (by omega),<-s];apply jb
   grind
end
section
section
variable {S bf:Type}(st:bf->S->Option S)(ok:S->Prop)
end
section
variable {S bf:Type}{st:bf->S->Option S}{ok:S->Prop}
end
def mQ (c j:Nat)(F:aH):Option aH:=match F.aY[c]? with
 |none=>none
 |some C=>match C.aG[j]?,F.nodes[j]? with
  |some l,some n=>if l.pair.bj.length=0 then none else some {F with nodes:=F.nodes.set j (l.pair.step n).2.1,aY:=F.aY.set c (C.comes j l (l.pair.step n).1 (l.pair.step n).2.2)}
  | _,_=>none
theorem rj {F dx:aH}:mQ c j F=some dx↔∃ C l n,F.aY[c]?=some C/\C.aG[j]?=some l/\F.nodes[j]?=some n/\l.pair.bj.length≠0/\dx={F with nodes:=F.nodes.set j (l.pair.step n).2.1,aY:=F.aY.set c (C.comes j l (l.pair.step n).1 (l.pair.step n).2.2)}:=by
 unfold mQ
 grind
theorem y' {F dx:aH}(h:mQ c j F=some dx):F.step ⟨-1,c,j⟩=(true,dx):=by
 obtain⟨C,l,n,b,d,e,ar,rfl⟩:=rj.1 h;unfold aH.step;have a:F.cR (c:Int)=some C:=by
  unfold aH.cR
  grind
 grind
theorem pL {C:bB}{l:cL}{p:db}{d:Option cW}(h:i≠j):(C.comes j l p d).aG[i]?=C.aG[i]?:=by cases d<;>simp[bB.comes,m3 (λe=>h e.symm)]
end
section
theorem vj {x:ii}{i:Nat}:∀ {ls:List cL} {j:Nat},x ∈ k7 i j ls↔∃ q l,ls[q]?=some l/\0<l.pair.bj.length/\x=⟨-1,i,(j+q:Nat)⟩
 | [],j=>by simp[k7]
 |l::ls,j=>by
  unfold k7;rw[kh,vj (ls:=ls) (j:=j+1)];constructor
  ·rintro(h | ⟨q,l',b,a,c⟩)
   ·split at h
    ·rename_i ar;simp at h;exact⟨0,l,rfl,ar,by grind⟩
    grind
   ·exact⟨q+1,l',by grind,a,by grind⟩
  grind
theorem vk {x:ii}:∀ {cs:List bB} {i:Nat},x ∈ jY i cs↔∃ q C,cs[q]?=some C/\x ∈ k7 (i+q) 0 C.aG
 | [],i=>by simp[jY]
 |C::cs,i=>by
  unfold jY;rw[kh,vk (cs:=cs) (i:=i+1)];constructor
  ·rintro(h | ⟨q,C',a,b⟩)
   ·exact⟨0,C,rfl,h⟩
   ·exact⟨q+1,C',by simpa using a,by rw[show i+(q+1)=i+1+q by omega];exact b⟩
  ·rintro⟨q,C',a,b⟩;cases q with
   |zero=>left;simp at a;subst a;exact b
   |succ q=>exact .inr ⟨q,C',by simpa using a,by rw[show i+1+q=i+(q+1) by omega];exact b⟩
end
section
def Below (C:bB)(k:Nat):Prop:=∀ (i:Nat) (l:cL),C.aG[i]?=some l->∀ q ∈ l.bZ,q<k
theorem Lh {C:bB}{v:bE}{l:cL}(h:(C.gl k v).aG[i]?=some l):∃ a,C.aG[i]?=some a/\((l.bZ=a.bZ/\l.pair.bj=a.pair.bj/\v.node.toNat≠i)\/(l.bZ=a.bZ++[k]/\l.pair.bj=a.pair.bj++[v]/\v.node.toNat=i)):=by
 grind[bB.gl]
theorem DY {hV:Conv}{F:aH}{t:ca hV}(h:0<F.waiting t.a3):b5 F t=(F,t):=by
 unfold b5
 grind
end
section
theorem ik (F:aH)(c:Nat):F.cR (c:Int)=F.aY[c]?:=by
 unfold aH.cR
 grind
end
section
section
variable {hV:Conv}
theorem cy.mQ {F dx:aH}(h:cy F)(b:mQ c j F=some dx):cy dx:=by have a:=h.step ⟨-1,c,j⟩;rw[y' b]at a;exact a
end
end
section
def fp (bC:Nat->Option cW)(q:Nat)(d:cW):Nat->Option cW:=λk=>if k=q then some d else bC k
theorem tB (bC:Nat->Option cW)(q:Nat)(d:cW):fp bC q d q=some d:=bm rfl
theorem r4 {bC:Nat->Option cW}{d:cW}(h:k≠q):fp bC q d k=bC k:=aW h
structure AQ (vs:bu)(bC:Nat->Option cW)(j:Nat)(l:cL):Prop where
 len:l.bZ.length=l.pair.bj.length
 xw:l.bZ.Pairwise (·<·)
 at_:∀ (t q:Nat),l.bZ[t]?=some q->∃ v,vs[q]?=some v/\l.pair.bj[t]?=some v/\v.node.toNat=j/\bC q=none
structure gL (C:bB)(vs:bu)(bC:Nat->Option cW):Prop where
 live:C.alive=true
 ds:∃ ds,C.batch=some ds/\ds.length=vs.length/\∀ q d,bC q=some d->ds[q]?=some d
 lane:∀ (j:Nat) (l:cL),C.aG[j]?=some l->AQ vs bC j l
 left:∀ q,q<vs.length->bC q=none->∃ (j:Nat) (l:cL),C.aG[j]?=some l/\q ∈ l.bZ
theorem AQ.head {vs:bu}{bC:Nat->Option cW}{l:cL}(h:AQ vs bC j l){x:bE}{xs:bu}(ar:l.pair.bj=x::xs):∃ q cp,l.bZ=q::cp/\vs[q]?=some x/\x.node.toNat=j/\bC q=none:=by
 have a:=h.len;rw[ar]at a;cases f:l.bZ with
 |nil=>grind
 |cons q cp=>
  obtain⟨v,b,c,d,e⟩:=h.at_ 0 q (by grind)
  grind
theorem gL.more {C:bB}{vs:bu}{bC:Nat->Option cW}(h:gL C vs bC){l:cL}(c:C.aG[j]?=some l){p:db}(g:p.bj=l.pair.bj):gL (C.comes j l p none) vs bC:=by
 have d:=dk c;refine⟨h.live,h.ds,λi l' a=>?_,λq k f=>?_⟩
 ·by_cases e:i=j
  ·subst e;simp [bB.comes,d] at a;subst a;have b:=h.lane _ l c;exact ⟨by show l.bZ.length=p.bj.length;rw [g];exact b.len,b.xw,λt q n=>by
    obtain⟨v,o,r,s,u⟩:=b.at_ t q n
    grind⟩
  ·rw[pL e]at a;exact h.lane i l' a
 ·obtain⟨i,l',a,hm⟩:=h.left q k f;by_cases e:i=j
  ·subst e;rw[c]at a;cases a;exact⟨i,{l with pair:=p},by grind[bB.comes],hm⟩
  ·exact⟨i,l',by grind[pL],hm⟩
theorem gL.done {C:bB}{vs:bu}{bC:Nat->Option cW}(h:gL C vs bC){l:cL}(n:C.aG[j]?=some l){x:bE}{xs:bu}(ar:l.pair.bj=x::xs){p:db}(K:p.bj=xs){cp:cV}(z:l.bZ=q::cp)(d:cW) :
  gL (C.comes j l p (some d)) vs (fp bC q d):=by
 have o:=dk n;have g:=h.lane j l n;obtain⟨ds,J,hlen,F⟩:=h.ds;have H:vs[q]?=some x/\x.node.toNat=j:=by
  obtain⟨L,I,e,s,u,_⟩:=g.head ar
  grind
 have G:q<vs.length:=dk H.1;have a:=g.xw;rw[z,aac]at a;refine⟨h.live,⟨ds.set q d,?_,by grind,λk e y=>?_⟩,λi l' c=>?_,λk y w=>?_⟩
 ·grind[bB.comes]
 ·grind[tB,List.getElem?_set_self,r4,List.getElem?_set_ne]
 ·by_cases e:i=j
  ·subst e;simp[bB.comes,o]at c;subst c;refine⟨?_,?_,λt k A=>?_⟩
   ·show l.bZ.tail.length=p.bj.length;have:=g.len
    grind
   ·grind
   ·have r:cp[t]?=some k:=by grind
    obtain⟨v,s,u,D,E⟩:=g.at_ (t+1) k (by grind);have f:k≠q:=by have:=a.1 k (cu r);omega
    grind[r4]
  ·rw[pL e]at c;have b:=h.lane i l' c;refine⟨b.len,b.xw,λt k A=>?_⟩;obtain⟨v,s,u,D,E⟩:=b.at_ t k A
   grind[r4]
 ·have f:k≠q:=λe=>by grind[tB]
  rw[r4 f]at w;obtain⟨i,l',c,hm⟩:=h.left k y w;by_cases e:i=j
  ·subst e;rw[n]at c;cases c;rw[z]at hm;rcases gw.1 hm with B | B
   ·grind
   ·exact⟨i,⟨p,l.bZ.tail⟩,by grind[bB.comes],by grind⟩
  ·exact⟨i,l',by grind[pL],hm⟩
theorem gL.all {C:bB}{vs:bu}{bC:Nat->Option cW}(h:gL C vs bC)(he:∀ (j:Nat) (l:cL),C.aG[j]?=some l->l.pair.bj=[]):∃ ds,C.batch=some ds/\ds.length=vs.length/\(∀ q d,bC q=some d->ds[q]?=some d)/\∀ q,q<vs.length->∃ d,bC q=some d:=by
 obtain⟨ds,a,b,c⟩:=h.ds;refine⟨ds,a,b,c,λq g=>?_⟩;cases e:bC q with
 |some d=>grind
 |none=>
  obtain⟨j,l,f,hm⟩:=h.left q g e;have:=(h.lane j l f).len
  grind
structure om (vs:bu)(k:Nat)(C:bB):Prop where
 lane:∀ (j:Nat) (l:cL),C.aG[j]?=some l->l.bZ.length=l.pair.bj.length/\l.bZ.Pairwise (·<·)/\∀ (t q:Nat),l.bZ[t]?=some q->q<k/\∃ v,vs[q]?=some v/\l.pair.bj[t]?=some v/\v.node.toNat=j
 left:∀ q,q<k->∃ (j:Nat) (l:cL),C.aG[j]?=some l/\q ∈ l.bZ
theorem om.one {vs:bu}{C:bB}(h:om vs k C){v:bE}(ar:vs[k]?=some v)(n:v.node.toNat<C.aG.length):om vs (k+1) (C.gl k v):=by
 refine⟨λj l d=>?_,λq w=>?_⟩
 ·obtain⟨o,f,g⟩:=Lh d;obtain⟨r,s,u⟩:=h.lane j o f;rcases g with⟨b,c,_⟩ | ⟨b,c,p⟩
  ·grind
  ·rw[b,c];refine⟨by grind,?_,λt q x=>?_⟩
   ·grind[List.mem_iff_getElem?]
   grind
 ·have a:∀ i,(C.gl k v).aG[i]?=(C.aG[i]?).map λl=>if v.node.toNat=i then (⟨{ l.pair with bj:=l.pair.bj++[v] },l.bZ++[k]⟩:cL) else l:=λi=>by
   grind[bB.gl]
  by_cases e:q=k
  ·subst e;refine⟨v.node.toNat,_,by rw[a,bW n];rfl,?_⟩;simp
  ·obtain⟨j,l,d,hm⟩:=h.left q (by omega)
   grind
theorem om.from {vs:bu}:∀ (us:bu) {k:Nat} {C:bB},om vs k C->(∀ i,us[i]?=vs[k+i]?)->(∀ v ∈ us,v.node.toNat<C.aG.length)->om vs (k+us.length) (C.gS k us)
 | [],k,C,h,hu,a=>h
 |u::us,k,C,h,hu,a=>by
  have b:=h.one (v:=u) (by have:=hu 0;grind) (a u g_);have d:(C.gl k u).aG.length=C.aG.length:=by simp[bB.gl]
  have c:=om.from us b (λi=>by have:=hu (i+1);rw[zn]at this;rw[this];congr 1;omega) (λv ar=>by rw[d];exact a v (gm _ ar));rw[jB,show k+(us.length+1)=k+1+us.length by omega];exact c
theorem gL.post {C:bB}{vs:bu}(n:C.alive=true)(he:∀ (j:Nat) (l:cL),C.aG[j]?=some l->l.pair.bj=[]/\l.bZ=[])(o:∀ v ∈ vs,v.node.toNat<C.aG.length):gL (C.kE vs) vs λ_=>none:=by
 have g:om vs 0 C:=⟨λj l a=>by
  obtain⟨r,s⟩:=he j l a
  simp_all,λq b=>by omega⟩
 have h:=om.from vs g (λi=>by grind) o;rw[h_]at h;refine⟨?_,⟨List.replicate vs.length ⟨0,[]⟩,rfl,by simp,λq d e=>by cases e⟩,λj l a=>?_,λq b _=>h.left q b⟩
 ·have:∀ (us:bu) (D:bB) (k:Nat),(D.gS k us).alive=D.alive:=λus=>by
   induction us with
   |nil=>intro D k;rfl
   |cons v vs p=>intro D k;exact(p (D.gl k v) (k+1)).trans rfl
  exact(this vs C 0).trans n
 ·obtain⟨c,f,u⟩:=h.lane j l a;exact⟨c,f,λt q w=>by grind⟩
end
end Go.Proofs.YtmkljjbioomepaaGreat
