import Derived.Test.YtmkljjbioomepaaGreatProg
import Derived.Test.YtmkljjbioomepaaGreata03
import Derived.Test.YtmkljjbioomepaaGreata20
import Derived.Test.YtmkljjbioomepaaGreata16
set_option linter.all false
set_option maxHeartbeats 4000000
set_option maxRecDepth 100000
namespace Go.Proofs.YtmkljjbioomepaaGreat
open Go.Proofs.Tryz Go.b8
variable {C:cT} {F:a9} {G:List (List a_)} {K:cl->aV} {T:kb} {b i tb:Nat} {c:Int} {j:eP} {l:eM} {n:bt} {o:cl} {p:fx} {u w:av} {v x:bn}
section
open IntKind
variable (w:av) (R:dW) {s:ax} {a b:Nat} {A:bh} {i k:Int} {j:aB}
theorem aCN (K:fW):bS prog f92 [K.val,ad s a b] R w=(bb w K.cells.toArray 39 λH X=>bb X #[I 0,I 0] 171 λA bG=>VJ bG (ae H 0) λr=>dI 124 #[r.val] bG λc M=>cond (c != 0) (bJ M (ae A 0) 0 [I c,I 0] λC=>gT C (ae A 0) λm=>C=C/\R (.tuple #[bC,m.val,U true]) C) (dP M λe9 B=>Ls B (ae H 0) λu=>wL 115 #[ad s a b] e9 λd L=>B L/\bb L #[I u.Client,I u.Seq,I u.mB,I u.View.Number,ad u.View.h1 u.View.h6 u.View.iJ,ad u.Reads u.s5 u.Bi,ad u.hO u.gO u.mC,.pointer d,I 0,I 0,U false] 212 λD bF=>B bF/\u' bF (ae H 3) λn=>Calls prog 125 #[n.val] bF λe N=>bp.ex λo=>∃ (f:Bool),e=.returned (.tuple #[o.val,U f])/\bJ N (ae D 8) 0 o.cells λY=>axv 126 #[bM D] Y λq p=>bJ p (ae A 0) 0 q.cells λj=>wN j (ae D 7) λt=>p7 118 #[.pointer t] j λg h i k v=>cond k (bJ v (ae A 0) 0 [I 0,I 0] λx=>gT x (ae A 0) λy=>x=x/\R (.tuple #[ad g h i,y.val,U false]) x) (wN v (ae D 7) λZ=>fu 119 #[.pointer Z] v λl z=>cond l (bJ z (ae A 0) 0 [I 6,I 0] λfS=>dP fS λW P=>ae' P (ae A 0) λT=>bJ W (ae A 0) 0 T.cells λG=>gT G (ae A 0) λE=>G=G/\R (.tuple #[bC,E.val,U true]) G) (dP z λQ S=>ae' S (ae A 0) λO=>bJ Q (ae A 0) 0 O.cells λF=>gT F (ae A 0) λV=>F=F/\R (.tuple #[bC,V.val,U true]) F)))):=by kernel_rfl
def NR (s2:bh) (a:ax) (b c:Nat) (d f:Int) (j:aB):aB:=ag j 0 2 (.pointer (some s2)::ag j 2 14 (ad a b c::I d::I f::ag j 16 13 []))
def ad' (a:bh) (j:aB):aB:=ag j 0 2 (.pointer (some a)::ag j 2 30 [])
theorem ax4:bS prog f126 [bM a] R w=(bb w #[I 0,I 0] 171 λd e=>bb e #[.func (.func 172) #[bM a] #[],.func (.func 173) #[bM a] #[],.func (.func 174) #[bM a] #[],.func (.func 175) #[bM a] #[],.func (.func 176) #[bM a] #[]] 277 λc b=>dT prog (e0 f126 [1,0,1,0,0]) (NR (ae d 0) (b7 c) 5 5 5 0 (jp (ae a 0)::bQ 5 (jp (ae a 0)::.func (.func 172) #[bM a] #[]::jp (ae a 0)::.func (.func 173) #[bM a] #[]::jp (ae a 0)::.func (.func 174) #[bM a] #[]::jp (ae a 0)::.func (.func 175) #[bM a] #[]::jp (ae a 0)::.func (.func 176) #[bM a] #[]::bQ 13 []))) (a8 0 (ba f126 [1,1] R)) b):=by kernel_rfl
theorem avH (m:aB->aV):W prog (sb f126 [1,0,1,0,0]) (NR A s a b i k j) (bk m (a8 0 (ba f126 [1,1] R))) w=(cond (k<i) (cb s a k 1 λn=>∃ x,w.cell? n=some x/\px prog x #[] w λe p=>cl.ex λh=>∃ g,e=.returned (.tuple #[h.val,U g])/\bb p #[I 0,I 0] 171 λf o=>bJ o (ae f 0) 0 h.cells λl=>cond (!g) (gT l (ae f 0) λr=>bJ l A 0 r.cells λd=>gT d A λc=>d=d/\R c.val d) (m (NR A s a b i (i64.wrap (k+1)) (aW j 0::aW j 1::aW j 2::x::jp (ae f 0)::U g::ag j 6 10 [U (k<i),jp n,x,.tuple #[h.val,U g],x,.tuple #[h.val,U g],h.val,U g,U g,U (!g),aW j 26,I (i64.wrap (k+1)),aW j 28])) l)) (W prog (sb f126 [1,1]) (ad' A (ag j 0 16 (ad s a b::I i::I k::U (k<i)::ag j 17 12 []))) (c3 f126 R) w)):=by kernel_rfl
theorem avW:W prog (sb f126 [1,1]) (ad' A j) (c3 f126 R) w=(bJ w A 0 [I 0,I 3] λa=>gT a A λb=>a=a/\R b.val a):=by kernel_rfl
end
section
def yU:List (List (List a_)->dM)->List (List a_)->dM
 | [],G=>F0 G
 |f::qo,G=>IL (f G) (yU qo)
def Fq (j:eP):List (List (List a_)->dM):=[F1 j,rB j,IM j,zn j,yc j]
def runM (j:eP) (G:List (List a_)):dM:=yU (Fq j) G
def Fs (R:dM):Int×Int:=if R.ok=true then (0,3) else R.out
theorem awC:oq prog 172=true:=by kernel_rfl
theorem awD:oq prog 173=true:=by kernel_rfl
theorem awE:oq prog 174=true:=by kernel_rfl
theorem awF:oq prog 175=true:=by kernel_rfl
theorem awG:oq prog 176=true:=by kernel_rfl
def SV (bo:Nat):aH:=[.func (.func 172) #[ptr bo] #[],.func (.func 173) #[ptr bo] #[],.func (.func 174) #[ptr bo] #[],.func (.func 175) #[ptr bo] #[],.func (.func 176) #[ptr bo] #[]]
variable {A:bB} {w0 u:av} {bo tb:Nat} {r:fW} {cI:bp} {j:eP}
theorem anG {z:av} (gu:iS w0 z bo tb r cI j) (aC:Bc j) (bq:h2 A w0 z tb T G) (c7:kl T) (aD:i<5) :
  ∃ (f:FuncId) (F:List (List a_)->dM),(SV bo)[i]?=some (.func (.func f) #[ptr bo] #[])/\(Fq j)[i]?=some F/\oq prog f=true/\bK f [ptr bo] z (sR A w0 z tb z.heap.size (F G)):=by
 have c9:i=0\/i=1\/i=2\/i=3\/i=4:=by omega
 rcases c9 with rfl | rfl | rfl | rfl | rfl
 ·exact ⟨_,_,rfl,rfl,awC,amB gu aC bq c7⟩
 ·exact ⟨_,_,rfl,rfl,awD,amD gu bq c7⟩
 ·exact ⟨_,_,rfl,rfl,awE,alm gu bq c7⟩
 ·exact ⟨_,_,rfl,rfl,awF,aln gu aC bq c7⟩
 ·exact ⟨_,_,rfl,rfl,awG,aj6 gu aC bq c7⟩
theorem ai2 {F:List (List a_)->dM} {l:List (List (List a_)->dM)} (h:l[i]?=some F) (G:List (List a_)):yU (l.drop i) G=IL (F G) (yU (l.drop (i+1))):=by have aK:=dy h;rw [A2 aK];rw [cp aK] at h;cases h;rfl
theorem EQ (G:List (List a_)):(F0 G).ask=none/\(F0 G).gb=false:=⟨rfl,rfl⟩
theorem Y8 {j:eP} {a:Int} {ws:bR} {f:Int} (h:(yL j G a ws f).ok=true):(yL j G a ws f).ask=none/\(yL j G a ws f).gb=false:=by
 unfold yL at h ⊢;split
 ·exact EQ G
 ·rename_i aj;rw [if_neg aj] at h;exact ⟨(Ct h).1,(Ct h).2.1⟩
theorem aj7 {j:eP} (h:(rB j G).ok=true):(rB j G).ask=none/\(rB j G).gb=false:=by
 unfold rB at h ⊢;split
 ·rename_i af;rw [if_pos af] at h;rw [af] at h;cases h
 ·rename_i af;rw [if_neg af] at h;split
  ·exact ⟨rfl,rfl⟩
  ·rename_i al;rw [if_neg al] at h;split
   ·rename_i aL;rw [if_pos aL] at h;cases h
   ·rename_i aL;rw [if_neg aL] at h;exact absurd h aL
theorem aj8 {j:eP} (h:(zn j G).ok=true):(zn j G).ask=none/\(zn j G).gb=false:=⟨(Ct h).1,(Ct h).2.1⟩
theorem alq {j:eP} (h:(yc j G).ok=true):(yc j G).ask=none/\(yc j G).gb=false:=by
 unfold yc at h ⊢;split
 ·exact EQ G
 ·rename_i aj;rw [if_neg aj] at h;exact ⟨(Ct h).1,(Ct h).2.1⟩
theorem anH {j:eP} (i:Nat) (F:List (List a_)->dM) (h:(Fq j)[i]?=some F) (G:List (List a_)) (J:(F G).ok=true):(F G).ask=none/\(F G).gb=false:=by
 have aK:=dy h;have c9:i=0\/i=1\/i=2\/i=3\/i=4:=by unfold Fq at aK;simp at aK <;> omega
 rcases c9 with rfl | rfl | rfl | rfl | rfl<;>cases h
 ·exact Y8 J
 ·exact aj7 J
 ·exact Y8 J
 ·exact aj8 J
 ·exact alq J
attribute [local irreducible] oq px xI
theorem aoK (gu:iS w0 u bo tb r cI j) (aC:Bc j) (bq:h2 A w0 u tb T G) (c7:kl T) :
  bK 126 [ptr bo] u λv b_=>v=cl.val ⟨(Fs (runM j G)).1,(Fs (runM j G)).2⟩/\k' A w0 u tb u.heap.size (runM j G) b_:=by
 refine bO Tryz.func126 ?_;rw [ptr,ax4];rintro b1 ct bA gx;obtain ⟨bm,a1⟩:=b4 bA gx;have bm:aF ct b1 (cl.cells ⟨0,0⟩) h7:=bm;clear gx;rintro aP cS cv ki;obtain ⟨bP,a5⟩:=b4 cv ki;obtain ⟨uo,bP⟩:∃ uo,aF cS aP (SV bo) uo:=⟨_,bP⟩;clear ki;have ja:=a1.new a5;have gM:=ai.an a5 bm;have g3:=gM.lt;have nM:=bP.lt;have lY:=bq.an.lt;have th:=gu.an.lt;have fI:=a1.size;refine e2 mix (λq env z=>∃ (i:Nat) (qf:List (List a_)) (aT:aH),q=5 - i/\i<=5/\env=NR ⟨b1,0,none⟩ (some ⟨aP,0,none⟩) 5 5 5 i aT/\iS w0 z bo tb r cI j/\(∃ T,h2 A w0 z tb T qf/\kl T)/\ay (λk=>k=tb) u z/\aF z b1 (cl.cells ⟨0,0⟩) h7/\aF z aP (SV bo) uo/\runM j G=yU ((Fq j).drop i) qf) 5
  ⟨0,G,_,rfl,by omega,rfl,gu.ck ja,⟨T,bq.new ja,c7⟩,ay.db ja,gM,bP,rfl⟩ ?_
 rintro q env z ⟨i,qf,aT,rfl,aD,rfl,hP,⟨aoQ,abD,JU⟩,m7,bm,bP,fV⟩;rw [avH];refine bL (λaK=>?_) (λhQ=>?_)
 ·obtain ⟨f,F,aJ,cM,b3,JX⟩:=anG hP aC abD JU (i:=i) (by omega);rw [ai2 cM] at fV;refine hc (by omega) (by omega) ⟨_,bP.cell (i:=0+i * 1) (by rw [l6,Nat.mul_one];exact aJ),?_⟩;refine EW b3 (xs:=#[ptr bo]) (by simp) ?_;refine aR JX ?_;rintro v c6 ⟨rfl,hT⟩;refine cl.bd ⟨(F qf).out.1,(F qf).out.2⟩ ⟨(F qf).ok,rfl,?_⟩;refine g0 (vs:=cl.cells ⟨(F qf).out.1,(F qf).out.2⟩) rfl (cl.single _) λbT ff ej cx bH=>?_
  have cr:=m7.size;have Kq:=bm.lt;have Ae:=(hT.after m7).new bH;have om:aF ff b1 (cl.cells ⟨0,0⟩) h7:=ai.an bH (hT.aO.an bm (by omega));have K5:=ai.an bH (hT.aO.an bP (by omega));unfold IL at fV;cases J:(F qf).ok with
  |false=>
   rw [if_neg (by rw [J];simp)] at fV;refine g8 rfl ?_;refine cl.bd ⟨(F qf).out.1,(F qf).out.2⟩ ⟨cD cx rfl,?_⟩;refine gL om rfl (cl.single _) λjP e4 eu=>?_
   refine cl.bd ⟨(F qf).out.1,(F qf).out.2⟩ ⟨cD e4 rfl,rfl,?_,?_⟩
   ·rw [fV];unfold Fs;rw [if_neg (by rw [J];simp)]
   ·rw [fV];exact Ae.put (ay.refl _ _) (ay.refl _ _) eu (by omega) (by omega) (by omega) (by omega)
  |true=>rw [if_pos J] at fV;obtain ⟨bc,hw⟩:=anH i F cM qf J;obtain ⟨er,q4,zY⟩:=Ae.clean bc hw;rw [cn (x:=(i:Int)+1) (by omega) (by omega)];exact ⟨5 - (i+1),by omega,i+1,(F qf).bD,_,rfl,by omega,rfl,(hP.aO hT.aO λk e=>by have af:=hP.sM;have al:=hP.ne;exact ⟨by omega,by omega⟩).ck bH,⟨er,q4,zY⟩,Ae.aO,om,K5,fV⟩
 ·have TT:i=5:=by omega
  subst TT;rw [avW,fV];refine vI bm rfl 0 3 λc6 dv=>⟨rfl,?_⟩
  have aN:k' A w0 u tb z.heap.size (yU ((Fq j).drop 5) qf) z:=⟨m7,aoQ,abD,JU.gb,JU.fi⟩;have cr:=m7.size;have Kq:=bm.lt;exact aN.put (ay.refl _ _) (ay.refl _ _) dv (by omega) (by omega) (by omega) (by omega)
end
section
def g1 (j:eP) (G:List (List a_)):List bn×(Int×Int)×Bool:=
 if j.valid≠0 then ([],(j.valid,0),true) else match (runM j G).ask with
 |some vs=>(vs,(0,0),false)
 |none=>if (runM j G).gb=true\/(runM j G).bD≠[] then ([],(6,0),true) else ([],Fs (runM j G),true)
theorem Y9 (aE:aF w tb T.cells Bm):bK 118 [ptr tb] w λx w'=>x=.tuple #[.slice T.aa T.fi T.ac,.bool (decide ((T.fi:Int)>0))]/\ai w w':=by
 refine bO Tryz.func118 ?_;rw [ptr,ayX];rintro w1 br;have a1:ai w w1:=by rw [br];exact eh _
 clear br;exact ⟨λy=>ai w1 y,ay.refl _ _,_,_,_,λy az=>(ai.an (a1.new az) aE).cell (i:=1) rfl,_,_,_,λy az=>(ai.an (a1.new az) aE).cell (i:=1) rfl,rfl,a1⟩
theorem Y_ (aE:aF w tb T.cells Bm):bK 119 [ptr tb] w λx w'=>x=.bool (T.gb || decide ((T.gB:Int)>0))/\ai w w':=by
 refine bO Tryz.func119 ?_;rw [ptr,ayi];refine ⟨T.gb,aE.cell (i:=2) rfl,?_⟩;cases T.gb
 ·exact eX rfl ⟨_,_,_,aE.cell (i:=0) rfl,rfl,ay.refl _ _⟩
 ·exact g8 rfl ⟨rfl,ay.refl _ _⟩
def FY (w:av) (j:eP) (G:List (List a_)) (v:bx) (u:av):Prop:=
 ∃ (aa:ax) (ac:Nat) (dD:List a0),v=.tuple #[.slice aa dD.length ac,cl.val ⟨(g1 j G).2.1.1,(g1 j G).2.1.2⟩,.bool (g1 j G).2.2]/\ai w u/\bW u aa (gG dD).flatten/\(∀ k,a7 aa k->w.heap.size<=k)/\hp (λk=>k<w.heap.size) u dD (g1 j G).1
theorem FY.nil {o:Int×Int} {b:Bool} (h:g1 j G=([],o,b)) (aj:ai w u):FY w j G (.tuple #[.slice none 0 0,cl.val ⟨o.1,o.2⟩,.bool b]) u:=
 ⟨none,0,[],by rw [h];rfl,aj,.inl rfl,λk J=>absurd J yP,by rw [h];exact ⟨rfl,λi v x aw=>by simp at aw⟩⟩
theorem aau (aE:aF u b o.cells h7) (J:∀ c6,ay (λk=>k=b) u c6->K o c6) :
  ∀ w1,w1=u.drew->∃ hb:aV,hb w1/\cl.ex λr=>(∀ y,hb y->df y ⟨b,0,none⟩ 0 r.cells)/\ha w1 ⟨b,0,none⟩ 0 r.cells/\∀ aY,aY=dO w1 ⟨b,0,none⟩ 0 r.cells->cl.ex λres=>df aY ⟨b,0,none⟩ 0 res.cells/\aY=aY/\K res aY:=by
 rintro w1 br;have a1:ai u w1:=by rw [br];exact eh _
 clear br;have bm:=ai.an a1 aE;refine ⟨λy=>ai w1 y,ay.refl _ _,cl.bd o ⟨λy az=>cD (ai.an az bm) rfl,?_⟩⟩;exact gL bm rfl (cl.single _) λaY cx ek=>cl.bd o ⟨cD cx rfl,rfl,J aY ((ay.db a1).trans ek λ_ _ e=>e)⟩
theorem aoL (aE:aF u b o.cells h7) (c f:Int) (J:∀ c6,ay (λk=>k=b) u c6->K ⟨c,f⟩ c6) :
  ha u ⟨b,0,none⟩ 0 [(.int .i64 c),(.int .i64 f)]/\∀ aS,aS=dO u ⟨b,0,none⟩ 0 [(.int .i64 c),(.int .i64 f)]->∀ w1,w1=aS.drew->∃ hb:aV,hb w1/\cl.ex λr=>(∀ y,hb y->df y ⟨b,0,none⟩ 0 r.cells)/\ha w1 ⟨b,0,none⟩ 0 r.cells/\∀ aY,aY=dO w1 ⟨b,0,none⟩ 0 r.cells->cl.ex λres=>df aY ⟨b,0,none⟩ 0 res.cells/\aY=aY/\K res aY:=
 gL aE (vs:=cl.cells ⟨c,f⟩) rfl (cl.single _) λaS bP eN=>aau bP λc6 dv=>J c6 (eN.trans dv λ_ _ e=>e)
theorem amj {A:bB} {r:fW} (c_:CR w r j) (aC:j.valid=0->Bc j) {lv:ax} {gB gc:Nat} (a':nh A w lv G) (jm:gB=G.length) (od:gB<=gc) :
  bK 92 [r.val,.slice lv gB gc] w (FY w j G):=by
 refine bO Tryz.func92 ?_;rw [aCN];rintro b1 ct bA gx;obtain ⟨bm,a1⟩:=b4 bA gx;have bm:aF ct b1 r.cells 39:=bm;clear gx;rintro aP cS cv ki;obtain ⟨bP,a5⟩:=b4 cv ki;have bP:aF cS aP (cl.cells ⟨0,0⟩) h7:=bP;clear ki;have ja:=a1.new a5;have fI:=a1.size;have g3:=bm.lt;have nM:=bP.lt;refine fW.bd r ⟨cD (ai.an a5 bm) rfl,?_⟩;refine aR (akG (c_.new ja)) ?_;rintro v b2 ⟨rfl,bf⟩;have vZ:=ja.new bf;have K4:=ai.an bf bP;refine ⟨_,rfl,fX (λaw=>?_) (λaw=>?_)⟩
 ·refine vI K4 rfl j.valid 0 λc6 dv=>FY.nil (o:=(j.valid,0)) (b:=true) ?_ (vZ.trans dv λk aK e=>by omega)
  unfold g1;rw [if_pos aw]
 have tk:=alj aw;have TH:=aC aw;obtain ⟨cI,lx⟩:∃ cI,j.v.mem[0]?=some cI:=⟨_,cp tk.mem.1⟩;rintro ff sr;have bH:ai b2 ff:=by rw [sr];exact eh _
 clear sr;have uQ:=vZ.new bH;have om:=ai.an ((a5.new bf).new bH) bm;refine ⟨λy=>ai ff y,ay.refl _ _,fW.bd r ⟨λy az=>cD (ai.an az om) rfl,?_⟩⟩;refine aR (ZT ff lv gB gc) ?_;rintro v jP ⟨tb,rfl,Ag,e4,cg⟩;refine ⟨_,rfl,cg,?_⟩;rintro bT mU ej ri;obtain ⟨fQ,dg⟩:=b4 ej ri;have fQ:aF mU bT (uA r tb ⟨0,0,false⟩) vv:=fQ;clear ri;have yB:=cg.size;have adk:=uQ.size;have jc:=a5.size;have j2:=bf.size;have nQ:=bH.size;have arV:=e4.lt;refine ⟨cg.new dg,e3.bd r.View ⟨cD (ai.an (cg.new dg) om) rfl,?_⟩⟩;obtain ⟨zw,kX⟩:=c_.view;have Ks:=(uQ.new cg).new dg;refine aR (XU (kX.new Ks) lx) ?_;rintro v u8 ⟨rfl,eT⟩;have gN:=ai.an eT fQ;refine bp.bd cI ⟨true,rfl,kA gN (by simp [uA,bp.cells,fW.cells]) (bp.single _),?_⟩;rintro iy tz;have kI:aF iy bT (uA r tb cI) vv:=by rw [tz];exact gN.dO (o:=8) (i:=0) (vs:=cI.cells)
 have fK:ay (λk=>k=bT) u8 iy:=by rw [tz];exact nI _ _ _ _ _
 clear tz;have OT:ai w iy:=(Ks.new eT).trans fK λk aK e=>by omega
 have GZ:ai jP iy:=(dg.new eT).trans fK λk aK e=>by omega
 have at8:aF iy tb (kb.cells ⟨lv,gB,gc,none,0,0,false⟩) Bm:=ai.an GZ e4;have K6:aF iy aP (cl.cells ⟨0,0⟩) h7:=ai.an ((bH.new cg).new GZ) K4;have gu:iS w iy bT tb r cI j:=⟨kI,c_,tk,lx,OT,by omega,by omega,by omega⟩;have bq:h2 A w iy tb ⟨lv,gB,gc,none,0,0,false⟩ G:=⟨at8,a',jm,od⟩;have ij:=aoK gu TH bq ⟨rfl,rfl⟩;refine aR ij ?_;rintro v ve ⟨rfl,hT⟩;have Pb:=GZ.size;have Vg:aF ve aP (cl.cells ⟨0,0⟩) h7:=hT.aO.an K6 (by omega);refine cl.bd ⟨(Fs (runM j G)).1,(Fs (runM j G)).2⟩ ⟨rfl,?_⟩;refine gL Vg rfl (cl.single _) λafQ aua ON=>?_
 have ado:=(hT.after (u:=w) (ay.db OT)).put (B':=iy.heap.size) (ay.refl _ _) (ay.refl _ _) ON (by omega) (by omega) (by omega) (eJ _);have G0:ai w afQ:=(ay.refl _ w).trans ado.aO λk aK e=>by omega
 have adR:aF afQ bT (uA r tb cI) vv:=ON.an (hT.aO.an kI (by omega)) (by omega);obtain ⟨_,T,BB,GA,BC⟩:=ado;refine ⟨_,adR.cell (i:=7) rfl,?_⟩;refine aR (Y9 BB.an) ?_;rintro v ayT ⟨rfl,tu⟩;have K7:=ai.an tu aua;cases jZ:(runM j G).ask with
 |some vs=>
  rw [jZ] at BC;obtain ⟨aN,w1,af,al,aL⟩:=BC;have r_:=aL.len;refine ⟨_,_,_,_,rfl,g8 (by simp;omega) ?_⟩;refine vI K7 rfl 0 0 λHW D8=>?_
  have ca:cy w1 HW T.aa T.fi T.ac vs:=(aL.new tu).aO D8 λk e=>by omega
  obtain ⟨⟨dD,aq,KV⟩,OO,nK⟩:=ca;have aA:=KV.1;have br:=af.size;have hS:g1 j G=(vs,(0,0),false):=by unfold g1;rw [if_neg (by simpa using aw),jZ]
  refine ⟨T.aa,T.ac,dD,?_,(G0.new tu).trans D8 λk aK e=>by omega,aq.rd,λk J=>by have:=nK k J;omega,?_⟩
  ·rw [hS,r_,aA]
  ·rw [hS];exact KV.aO (ay.refl _ _) λk aK e=>.inl (by omega)
 |none=>
  rw [jZ] at BC;refine ⟨_,_,_,_,rfl,eX (by simp;omega) ?_⟩;refine ⟨_,(ai.an tu adR).cell (i:=7) rfl,?_⟩;refine aR (Y_ (ai.an tu BB.an)) ?_;rintro v HW ⟨rfl,Ee⟩;have K8:=ai.an Ee K7;have J4:=BB.gB;refine ⟨_,rfl,?_⟩;cases hm:(T.gb || decide ((T.gB:Int)>0)) with
  |true=>
   refine aoL K8 6 0 λVX Ug=>FY.nil (o:=(6,0)) (b:=true) ?_ (((G0.new tu).new Ee).trans Ug λk aK e=>by omega)
   unfold g1;rw [if_neg (by simpa using aw),jZ];refine if_pos ?_;rw [GA] at hm;rw [Ml] at hm;rcases hm with hm | hm
   ·exact .inl hm
   ·right;intro e;rw [e] at J4;simp at hm J4;omega
  |false=>
   refine aau K8 λVX Ug=>FY.nil (o:=Fs (runM j G)) (b:=true) ?_ (((G0.new tu).new Ee).trans Ug λk aK e=>by omega)
   unfold g1;rw [if_neg (by simpa using aw),jZ];refine if_neg ?_;rw [GA] at hm;obtain ⟨z8,z9⟩:=Bool.or_eq_false_iff.1 hm;rintro (e | e)
   ·rw [e] at z8;cases z8
   ·apply e;apply jR;simp at z9 <;> omega
end
section
def Bn (v:bn):Prop:=1<=v.v.count
theorem Bn.pieces {v:bn} (h:Bn v):0<v.v.pieces.length:=by refine Mk.2 (agP _ _ _ h ?_);unfold Bn at h;omega
structure jW (p:fx):Prop where
 w5:∀ v ∈ p.bN,Bn v
 idle:p.bN=[]->p.cu=0
 zero:p.cu=0->p.words=[]
 nr:p.nr
theorem jW.done {p:fx} (h:jW p):jW p.done:=by
 refine ⟨λv aw=>h.w5 v (Il aw),λ_=>rfl,λ_=>rfl,?_⟩
 intro x xs ao;have hm:x ∈ p.bN.tail:=by rw [show p.bN.tail=x::xs from ao];exact iA
 exact (h.w5 x (Il hm)).pieces
theorem jW.step {p:fx} (h:jW p) (n:bt):jW (p.step n).1:=by
 unfold fx.step;split
 ·exact h
 ·rename_i x xs ao;dsimp only;split
  ·exact h.done
  ·split
   ·rename_i aK;refine ⟨h.w5,λe=>?_,λe=>by simp at e,?_⟩
    ·rw [ao] at e;cases e
    ·intro y ys az;have:x=y:=by have af:p.bN=y::ys:=az;rw [ao] at af;exact (List.cons.inj af).1
     subst this;exact aK
   ·exact h.done
theorem jW.post (h:jW p) (aw:Bn v):jW { p with bN:=p.bN++[v] }:=by
 refine ⟨λx ao=>?_,λe=>by simp at e,h.zero,?_⟩
 ·rcases qT.1 ao with af | af
  ·exact h.w5 x af
  ·simp at af;rw [af];exact aw
 ·intro x xs ao;cases ar:p.bN with
  |nil=>simp [ar] at ao;rw [<-ao.1];show p.cu<_;rw [h.idle ar];exact aw.pieces
  |cons y ys=>simp [ar] at ao;rw [<-ao.1];exact h.nr y ys ar
theorem Xv (p:fx) (n:bt):(p.step n).1.bw=p.bw/\(p.step n).1.inc=p.inc/\(p.step n).1.node=p.node:=by
 unfold fx.step;split
 ·exact ⟨rfl,rfl,rfl⟩
 ·dsimp only;split
  ·exact ⟨rfl,rfl,rfl⟩
  ·split<;>exact ⟨rfl,rfl,rfl⟩
theorem ahS (p:fx) (n:bt):((p.step n).2.2=none/\(p.step n).1.bN=p.bN)\/(∃ d,(p.step n).2.2=some d/\(p.step n).1.bN=p.bN.tail/\p.bN≠[]):=by
 unfold fx.step;split
 ·exact .inl ⟨rfl,rfl⟩
 ·rename_i ao;dsimp only;split
  ·exact .inr ⟨_,rfl,rfl,by rw [ao];simp⟩
  ·split
   ·exact .inl ⟨rfl,rfl⟩
   ·exact .inr ⟨_,rfl,rfl,by rw [ao];simp⟩
theorem ahd (h:p.refusal x n=0):n.down=false/\x.v.valid 5 (n.words.length / 8:Nat)=0:=by
 unfold fx.refusal at h;split at h
 ·omega
 ·rename_i aC;split at h
  ·omega
  ·rename_i aw;exact ⟨by simpa using aC,by omega⟩
theorem Xw (aw:x.v.valid 5 (n.words.length / 8:Nat)=0) {pc:Int×Int} (ar:pc ∈ x.v.pieces):(exec x pc n).1.words.length=n.words.length:=by
 obtain ⟨ab,aD⟩:=Qo aw;obtain ⟨i1,i2,i3,i4,i5,i6,i7,i8,i9,i10,i11⟩:=Ce aD;unfold a0.ft at i10;have gE:=VE _ _ _ (by omega) pc ar;unfold exec;split
 ·rfl
 ·split
  ·simp only [bt.write,gp,o2,vq];omega
  ·split
   ·simp only [bt.kS];split<;>simp
   ·split
    ·simp [bt.add]
    ·rfl
theorem Yv (h:jW p) (n:bt):(p.step n).2.1.words.length=n.words.length:=by
 unfold fx.step;split
 ·rfl
 ·rename_i x xs ao;dsimp only;split
  ·rfl
  ·rename_i aA;have aw:=(ahd (p:=p) (x:=x) (n:=n) (by omega)).2;have aK:=h.nr x xs ao;have hm:x.v.pieces.getD p.cu (0,0) ∈ x.v.pieces:=by rw [gd,cp aK];exact qS _
   split
   ·exact Xw aw hm
   ·exact Xw aw hm
theorem QP:∀ {ls:List eM} {j:Nat} {l l':eM},ls[j]?=some l->l1 (ls.set j l')+l.pair.bN.length=l1 ls+l'.pair.bN.length
 | [],j,l,l',h=>by simp at h
 |a::ls,0,l,l',h=>by simp at h;subst h;simp [l1];omega
 |a::ls,j+1,l,l',h=>by have:=QP (ls:=ls) (j:=j) (l:=l) (l':=l') (by simpa using h);simp [l1] at this ⊢;omega
theorem WF:∀ {ls:List eM},l1 ls=0->∀ l ∈ ls,l.pair.bN=[]
 | [],_,l,h=>by simp at h
 |a::ls,aN,l,h=>by
  simp [l1] at aN;rcases iF.1 h with rfl | h
  ·exact aN.1
  ·exact WF (by simp [l1];exact aN.2) l h
structure Good (F:a9):Prop where
 ok:y' F
 fE:∀ C ∈ F.bl,∀ l ∈ C.aU,jW l.pair
 or:∀ p ∈ F.cN,jW p
theorem a9.zI (h:F.fE c=some C):0<=c/\F.bl[c.toNat]?=some C:=by
 unfold a9.fE at h;split at h
 ·cases h
 ·exact ⟨by omega,h⟩
theorem Good.jy (h:Good F) {C':cT} (ab:F.bl[i]?=some C) (af:Iq F.nodes.length i C') (al:∀ l ∈ C'.aU,jW l.pair):Good { F with bl:=F.bl.set i C' }:=by
 refine ⟨⟨h.ok.lines,h.ok.nodes,h.ok.words,by simpa using h.ok.bl,λk D fs=>?_,h.ok.hB⟩,λD fs=>?_,h.or⟩
 ·simp only [oy] at fs;split at fs
  ·split at fs
   ·rename_i e _;cases fs;rw [<-e];exact af
   ·cases fs
  ·exact h.ok.bw k D fs
 ·rcases zi fs with aL | rfl
  ·exact h.fE D aL
  ·exact al
theorem Good.yV (h:Good F) (i:Nat) {n':bt} (aj:n'.words.length=F.lines * 8):Good { F with nodes:=F.nodes.set i n' }:=by
 refine ⟨⟨h.ok.lines,by simpa using h.ok.nodes,λn hm=>?_,h.ok.bl,by simpa using h.ok.bw,by simpa using h.ok.hB⟩,h.fE,h.or⟩;rcases zi hm with aL | rfl
 ·exact h.ok.words n aL
 ·exact aj
theorem Good.take {F:a9} (h:Good F) (c:Int):Good (F.take c).2:=by
 unfold a9.take;cases ab:F.fE c with
 |none=>exact h
 |some C=>
  obtain ⟨aN,af⟩:=a9.zI ab;dsimp only;split
  ·exact h
  ·cases ak:C.batch with
   |none=>exact h
   |some ds=>
    dsimp only;split
    ·exact h
    ·rename_i hw;have b0:=h.ok.bw _ _ af;have ar:l1 C.aU=0:=by have:=b0.waiting;omega
     refine h.jy af ⟨b0.inc,b0.aU,λj l au=>?_,b0.waiting,?_,λapl e=>by cases e⟩ (h.fE C (dn af))
     ·have bE:=b0.lane j l au;have atG:=WF ar l (dn au);refine ⟨bE.bw,bE.inc,bE.node,bE.cP,λk J=>?_,bE.nr⟩;have:=bE.cP;rw [atG] at this;have:l.cP=[]:=jR this;rw [this] at J;cases J
     ·have:=b0.waiting;have aL:C.waiting=0:=by omega
      rw [show ({ C with batch:=none }:cT).waiting=C.waiting from rfl,aL];exact ⟨Md _,by simp⟩
theorem aj9 (h:Good F) {ds:List a_} (aZ:(F.take c).1=some ds):ds.length<=1024:=by
 unfold a9.take at aZ;cases ab:F.fE c with
 |none=>rw [ab] at aZ;cases aZ
 |some C=>
  rw [ab] at aZ;dsimp only at aZ;obtain ⟨aN,af⟩:=a9.zI ab;split at aZ
  ·cases aZ
  ·cases ak:C.batch with
   |none=>rw [ak] at aZ;cases aZ
   |some es=>
    rw [ak] at aZ;dsimp only at aZ;split at aZ
    ·cases aZ
    ·cases aZ;have:=(h.ok.bw _ _ af).batch.2;rw [ak] at this;exact this
structure zz (n i:Nat) (inc:Int) (k:Nat) (ls:List eM):Prop where
 len:ls.length=n
 lane:∀ (j:Nat) (l:eM),ls[j]?=some l->RY i inc j k l/\jW l.pair
 l1:l1 ls=k
def H0 (l:eM) (k:Nat) (v:bn):eM:=⟨{ l.pair with bN:=l.pair.bN++[v] },l.cP++[k]⟩
theorem aCO {k:Nat} (a':C.aU[v.node.toNat]?=some l):(C.k3 k v).aU=C.aU.set v.node.toNat (H0 l k v):=by
 show C.aU.modify _ _=_;apply rL;intro j;obtain ⟨af,al⟩:=uh.1 a';rw [Ic,oy];by_cases e:v.node.toNat=j
 ·subst e;simp [af,al,H0]
 ·simp [e]
theorem RA {α:Type} {l:List α} {j:Nat} {x y:α} (aD:i<l.length) (h:(l.set i x)[j]?=some y):(i=j/\y=x)\/(i≠j/\l[j]?=some y):=by
 by_cases e:i=j
 ·subst e;rw [qe aD] at h;exact .inl ⟨rfl,(zf h).symm⟩
 ·rw [nC e] at h;exact .inr ⟨e,h⟩
theorem zz.post {n i:Nat} {inc:Int} {k:Nat} {C:cT} (h:zz n i inc k C.aU) {v:bn} (aN:0<=v.node) (af:v.node<n) (aw:Bn v):zz n i inc (k+1) (C.k3 k v).aU:=by
 have aK:v.node.toNat<C.aU.length:=by rw [h.len];omega
 have a':C.aU[v.node.toNat]?=some C.aU[v.node.toNat]:=cp aK;rw [aCO a'];generalize C.aU[v.node.toNat]=eU at a';refine ⟨by simpa using h.len,λj l au=>?_,?_⟩
 ·rcases RA aK au with ⟨e,rfl⟩ | ⟨e,au⟩
  ·obtain ⟨bE,fO⟩:=h.lane _ _ a';refine ⟨⟨bE.bw,bE.inc,by rw [<-e];exact bE.node,by simp [H0,bE.cP],λq aM=>?_,(fO.post aw).nr⟩,fO.post aw⟩;rcases qT.1 aM with aL | aL
   ·have:=bE.low q aL;omega
   ·simp at aL <;> omega
  ·obtain ⟨bE,fO⟩:=h.lane j l au;exact ⟨⟨bE.bw,bE.inc,bE.node,bE.cP,λq aM=>by have:=bE.low q aM;omega,bE.nr⟩,fO⟩
 ·have:=QP (l':=H0 eU k v) a';have ca:(H0 eU k v).pair.bN.length=eU.pair.bN.length+1:=by simp [H0]
  have aL:=h.l1;omega
theorem zz.aeT {n i:Nat} {inc:Int}:∀ (vs:List bn) (k:Nat) (C:cT),zz n i inc k C.aU->(∀ v ∈ vs,0<=v.node/\v.node<n/\Bn v)->zz n i inc (k+vs.length) (C.lF k vs).aU
 | [],k,C,h,_=>h
 |v::vs,k,C,h,aw=>by
  obtain ⟨aN,af,al⟩:=aw v iA;have:=zz.aeT vs (k+1) (C.k3 k v) (h.post aN af al) λx ao=>aw x (jz _ ao)
  rw [cT.lF,l8,Nat.add_comm vs.length 1,<-Ma];exact this
theorem rg:∀ (vs:List bn) (k:Nat) (C:cT),(C.lF k vs).alive=C.alive/\(C.lF k vs).inc=C.inc
 | [],_,_=>⟨rfl,rfl⟩
 |v::vs,k,C=>by rw [cT.lF];exact rg vs (k+1) (C.k3 k v)
theorem afW {nodes lines:Int}:∀ {vs:List bn},qs nodes lines vs=0->∀ v ∈ vs,v.v.valid nodes lines=0
 | [],_,v,aw=>by simp at aw
 |x::vs,h,v,aw=>by
  unfold qs at h;split at h
  ·rename_i ao;exact absurd h ao
  ·rename_i ao;rcases iF.1 aw with rfl | aw
   ·omega
   ·exact afW h v aw
theorem Good.post {F:a9} (h:Good F) (c:Int) (vs:List bn):Good (F.post c vs).2:=by
 unfold a9.post;cases ab:F.fE c with
 |none=>exact h
 |some C=>
  obtain ⟨aN,af⟩:=a9.zI ab;have b0:=h.ok.bw _ _ af;dsimp only;split
  ·exact h
  rename_i bc;split
  ·exact h
  rename_i ak;split
  ·exact h
  rename_i ss;split
  ·exact h
  rename_i oj;split
  ·exact h
  rename_i yq;have Ov:C.batch=none:=by cases hy:C.batch with | none=>rfl | some x=>rw [hy] at ak;simp at ak
  have r_:C.alive=true:=by simpa using bc
  have mJ:C.waiting=0:=by have:=b0.batch.1;rw [Ov] at this;simpa using this
  have uU:l1 C.aU=0:=by rw [<-b0.waiting];exact mJ
  have eb:∀ v ∈ vs,0<=v.node/\v.node<F.nodes.length/\Bn v:=by intro v aw;obtain ⟨bs,bI⟩:=Qo (afW (Decidable.not_not.1 yq) v aw);obtain ⟨i1,i2,i3,i4,i5,i6,i7⟩:=Ce bI;exact ⟨i5,i6,bs⟩
  have Km:C.aU.length=F.nodes.length:=by rw [b0.aU,r_];rfl
  have hinv:zz F.nodes.length c.toNat C.inc 0 C.aU:=by refine ⟨Km,λj l au=>?_,uU⟩;have bE:=b0.lane j l au;refine ⟨⟨bE.bw,bE.inc,bE.node,bE.cP,λq aM=>?_,bE.nr⟩,h.fE C (dn af) l (dn au)⟩;have aL:=bE.low q aM;rw [Ov] at aL;simp at aL
  have q_:=zz.aeT vs 0 C hinv eb;rw [l6] at q_;obtain ⟨s1,s2⟩:=rg vs 0 C;refine h.jy af ⟨?_,?_,λj l au=>?_,?_,?_,?_⟩ λl au=>?_
  ·show 0<=(C.lF 0 vs).inc/\(C.lF 0 vs).inc<=59;rw [s2];exact b0.inc
  ·show (C.lF 0 vs).aU.length=if (C.lF 0 vs).alive then _ else _;rw [s1,r_,q_.len];rfl
  ·have:=(q_.lane j l au).1;show RY c.toNat (C.lF 0 vs).inc j _ l;rw [s2];simpa [cT.sI] using this
  ·show vs.length=l1 (C.lF 0 vs).aU;rw [q_.l1]
  ·show vs.length<=_/\_;simp [cT.sI];omega
  ·intro ds dX;simp [cT.sI] at dX;rw [<-dX];simp;omega
  ·obtain ⟨j,c_⟩:=hn.1 au;exact (q_.lane j l c_).2
theorem Iq.comes {n i:Nat} {C:cT} (b0:Iq n i C) {j:Nat} {l:eM} (au:C.aU[j]?=some l) (nd:bt) (fO:jW l.pair):Iq n i (C.comes j l (l.pair.step nd).1 (l.pair.step nd).2.2):=by
 have bE:=b0.lane j l au;have aK:=(uh.1 au).1;obtain ⟨s1,s2,dm⟩:=Xv l.pair nd;have aby:=fO.step nd;rcases ahS l.pair nd with ⟨bY,bg⟩ | ⟨d,bY,bg,dF⟩
 ·rw [bY];refine ⟨b0.inc,?_,λk l' hl=>?_,?_,b0.batch,b0.full⟩
  ·show (C.aU.set j _).length=_;rw [C0];exact b0.aU
  ·rcases RA aK hl with ⟨e,rfl⟩ | ⟨e,hl⟩
   ·exact ⟨s1.trans bE.bw,s2.trans bE.inc,by rw [<-e];exact dm.trans bE.node,by show l.cP.length=(l.pair.step nd).1.bN.length;rw [bE.cP,bg],bE.low,aby.nr⟩
   ·exact b0.lane k l' hl
  ·have:=QP (l':={ l with pair:=(l.pair.step nd).1 }) au;show C.waiting=l1 (C.aU.set j { l with pair:=(l.pair.step nd).1 });have hw:=b0.waiting;have c9:({ l with pair:=(l.pair.step nd).1 }:eM).pair.bN.length=l.pair.bN.length:=by show (l.pair.step nd).1.bN.length=_;rw [bg]
   omega
 ·rw [bY];have gw:0<l.pair.bN.length:=Mk.2 dF;have mg:((C.comes j l (l.pair.step nd).1 (some d)).batch.getD []).length=(C.batch.getD []).length:=by cases ak:C.batch<;>simp [cT.comes,ak]
  refine ⟨b0.inc,?_,λk l' hl=>?_,?_,?_,?_⟩
  ·show (C.aU.set j _).length=_;rw [C0];exact b0.aU
  ·rw [mg];rcases RA aK hl with ⟨e,rfl⟩ | ⟨e,hl⟩
   ·refine ⟨s1.trans bE.bw,s2.trans bE.inc,by rw [<-e];exact dm.trans bE.node,?_,λq aM=>bE.low q (Il aM),aby.nr⟩;show l.cP.tail.length=(l.pair.step nd).1.bN.length;rw [bg,FD,FD,bE.cP]
   ·exact b0.lane k l' hl
  ·have:=QP (l':=⟨(l.pair.step nd).1,l.cP.tail⟩) au;show C.waiting - 1=l1 (C.aU.set j ⟨(l.pair.step nd).1,l.cP.tail⟩);have hw:=b0.waiting;have c9:(⟨(l.pair.step nd).1,l.cP.tail⟩:eM).pair.bN.length=l.pair.bN.length - 1:=by show (l.pair.step nd).1.bN.length=_;rw [bg,FD]
   omega
  ·rw [mg];have:=b0.batch;show C.waiting - 1<=_/\_;omega
  ·intro ds dX;cases ak:C.batch with
   |none=>simp [cT.comes,ak] at dX
   |some es=>simp [cT.comes,ak] at dX;rw [<-dX,C0];exact b0.full es ak
theorem ahT {j:Nat} {nd:bt} (fO:jW l.pair) (ab:∀ l ∈ C.aU,jW l.pair):∀ l' ∈ (C.comes j l (l.pair.step nd).1 (l.pair.step nd).2.2).aU,jW l'.pair:=by
 intro l' hl;cases aC:(l.pair.step nd).2.2 with
 |none=>
  rw [aC] at hl;rcases zi hl with h | rfl
  ·exact ab l' h
  ·exact fO.step nd
 |some d=>
  rw [aC] at hl;rcases zi hl with h | rfl
  ·exact ab l' h
  ·exact fO.step nd
theorem Good.cN {F:a9} (h:Good F) {os:List fx} (aq:∀ p ∈ os,(0<=p.node/\p.node<F.nodes.length)/\jW p):Good { F with cN:=os }:=
 ⟨⟨h.ok.lines,h.ok.nodes,h.ok.words,h.ok.bl,h.ok.bw,λp ar=>⟨(aq p ar).1.1,(aq p ar).1.2,(aq p ar).2.nr⟩⟩,h.fE,λp ar=>(aq p ar).2⟩
theorem Good.nk (h:Good F):∀ p ∈ F.cN,(0<=p.node/\p.node<F.nodes.length)/\jW p:=λp ar=>⟨⟨(h.ok.hB p ar).1,(h.ok.hB p ar).2.1⟩,h.or p ar⟩
theorem Good.drop {F:a9} (h:Good F) (c:Int):Good (F.drop c).2:=by
 unfold a9.drop;split
 ·exact h
 ·exact h.cN λp ar=>h.nk p (Ra ar)
theorem Good.pz {F:a9} (h:Good F) (i:Nat):Good (F.pz i).2:=by
 unfold a9.pz;split
 ·exact h
 ·rename_i p ar;split
  ·exact h
  ·rename_i n aj;dsimp only;have hm:=dn ar;have fO:=h.or p hm;have hw:=h.ok.words n (dn aj);have al:=h.yV p.node.toNat (n':=(p.step n).2.1) (by rw [Yv fO];exact hw);have fp:=(h.nk p hm).1;have aX:=(Xv p n).2.2;refine al.cN (os:=if (p.step n).1.bN.length=0 then F.cN.eraseIdx i else F.cN.set i (p.step n).1) λq aM=>?_
   have hlen:(F.nodes.set p.node.toNat (p.step n).2.1).length=F.nodes.length:=by simp
   show (0<=q.node/\q.node<((F.nodes.set p.node.toNat (p.step n).2.1).length:Int))/\_;rw [hlen];split at aM
   ·exact h.nk q (Ra aM)
   ·rcases zi aM with aL | rfl
    ·exact h.nk q aL
    ·exact ⟨by rw [aX];exact fp,fO.step n⟩
theorem Good.step {F:a9} (h:Good F) (x:js):Good (F.step x).2:=by
 unfold a9.step;split
 ·exact h.pz _
 split
 ·exact h
 split
 ·exact h
 rename_i C ab;obtain ⟨aN,af⟩:=a9.zI ab;split
 ·exact h
 split
 ·rename_i l n au aj;split
  ·exact h
  dsimp only;have hm:=dn af;have fO:=h.fE C hm l (dn au);have hw:=h.ok.words n (dn aj);have al:=h.yV x.node.toNat (n':=(l.pair.step n).2.1) (by rw [Yv fO];exact hw);refine al.jy af ?_ (ahT fO (h.fE C hm));have:=(h.ok.bw _ _ af).comes au n fO;simpa using this
 ·exact h
theorem Good.die {F:a9} (h:Good F) (c:Int):Good (F.die c).2:=by
 unfold a9.die;cases ab:F.fE c with
 |none=>exact h
 |some C=>
  obtain ⟨aN,af⟩:=a9.zI ab;have b0:=h.ok.bw _ _ af;dsimp only;split
  ·exact h
  ·have al:=h.jy af (C':={ C with alive:=false,aU:=[],batch:=none,waiting:=0 }) ⟨b0.inc,rfl,λj l au=>by simp at au,rfl,by simp,λds e=>by cases e⟩ (λl au=>by simp at au);refine al.cN λp ar=>?_
   rcases qT.1 ar with aL | aL
   ·exact h.nk p aL
   ·obtain ⟨ca,c9⟩:=Ik.1 aL;obtain ⟨l,au,rfl⟩:=eQ.1 ca;obtain ⟨j,c_⟩:=hn.1 au;have bE:=b0.lane j l c_;have GS:=(uh.1 c_).1;have v5:=b0.aU;refine ⟨?_,h.fE C (dn af) l au⟩;rw [bE.node];split at v5
    ·exact ⟨by omega,by show (j:Int)<(F.nodes.length:Int);omega⟩
    ·omega
theorem Xd (n i:Nat) (inc:Int) (j:Nat) (l:eM) (h:(r0 n i inc)[j]?=some l):l=HA i inc j/\j<n:=by
 unfold r0 at h;rw [gV] at h;cases aA:(List.range n)[j]? with
 |none=>rw [aA] at h;cases h
 |some k=>rw [aA] at h;obtain ⟨af,al⟩:=uh.1 aA;simp at af al h;subst al;exact ⟨h.symm,af⟩
theorem ahU (n i:Nat) (inc:Int):l1 (r0 n i inc)=0:=by
 unfold r0 l1;rw [FE];induction n with
 |zero=>rfl
 |succ n c5=>rw [rK,pB,List.sum_append,c5];rfl
theorem Good.fresh {n c lines:Nat} (aj:1<=n/\n<=5) (ab:1<=c/\c<=6) (au:98<=lines/\lines<=256):Good (a9.fresh n c lines):=by
 have a':∀ (j:Nat) (l:eM) (i:Nat),(r0 n i 1)[j]?=some l->jW l.pair:=by intro j l i au;obtain ⟨rfl,_⟩:=Xd _ _ _ _ _ au;exact ⟨λv aw=>by simp [HA] at aw,λ_=>rfl,λ_=>rfl,λx xs e=>by simp [HA] at e⟩
 refine ⟨⟨by simp [a9.fresh];omega,by simp [a9.fresh];omega,λx ao=>?_,by simp [a9.fresh];omega,λi C b0=>?_,λp ar=>by simp [a9.fresh] at ar⟩,λC b0 l au=>?_,λp ar=>by simp [a9.fresh] at ar⟩
 ·simp [a9.fresh] at ao;rw [ao.2];show (fmt lines n).length=lines * 8;exact Zi _ _
 ·have uD:((List.range c).map (ng n))[i]?=some C:=b0;rw [gV] at uD;cases aA:(List.range c)[i]? with
  |none=>rw [aA] at uD;cases uD
  |some k=>
   rw [aA] at uD;obtain ⟨af,al⟩:=uh.1 aA;simp at af al uD;subst al;rw [<-uD];refine ⟨by simp [ng],by simp [ng,r0,a9.fresh],λj l au=>?_,?_,by simp [ng],λds e=>by simp [ng] at e⟩
   ·have jm:=a' j l i au;obtain ⟨rfl,_⟩:=Xd _ _ _ _ _ au;exact ⟨rfl,rfl,rfl,rfl,λk J=>by simp [HA] at J,jm.nr⟩
   ·show 0=l1 (r0 n i 1);rw [ahU]
 ·simp [a9.fresh] at b0;obtain ⟨i,_,rfl⟩:=b0;obtain ⟨j,c_⟩:=hn.1 au;exact a' j l i c_
end
end Go.Proofs.YtmkljjbioomepaaGreat
