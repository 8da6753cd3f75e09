import Derived.Test.YtmkljjbioomepaaGreata26
import Derived.Test.YtmkljjbioomepaaGreata14
import Derived.Test.YtmkljjbioomepaaGreata41
import Derived.Test.YtmkljjbioomepaaGreata35
set_option linter.all false
set_option maxHeartbeats 4000000
set_option maxRecDepth 100000
namespace Go.Proofs.YtmkljjbioomepaaGreat
open Go.Proofs.Tryz Go.b8
section
theorem akO:Go.o6.sZ prog 8 hs=some [false,false,false,false,false,false,false,false,false]:=by kernel_rfl
theorem am8:lA prog hs=true:=by kernel_rfl
theorem ajw:Program.eqGuardType prog (Program.depth prog) hs=false:=by kernel_rfl
theorem aiV (r:a6) {K:Bool->Prop} (J:K true):F3 prog hs r.val r.val K:=by
 refine ⟨true,λw=>?_,J⟩
 have ab:Go.o6.qL [false,false,false,false,false,false,false,false,false] r.cells r.cells:=⟨rfl,rfl,rfl,rfl,rfl,rfl,rfl,rfl,rfl,trivial⟩;have he:Go.o6.ma r.cells r.cells=true:=by simp [a6.cells,Go.o6.ma,Go.o6.DI]
 have aM:=Go.o6.M4 8 hs _ akO 10000 (by omega) r.cells r.cells ab w;unfold Go.o6.uk at aM;rw [if_pos am8,he] at aM;have v_:(Op.equalIn 10000 hs (.agg r.cells.toArray) (.agg r.cells.toArray)).run prog w=.ok true w:=aM;exact ⟨λop x y=>run_eqGuard_agg w op hs x y _ _ ajw,by rw [a6.val,run_eql_struct,v_];rfl,by rw [a6.val,run_neq_struct,v_];rfl⟩
theorem ahD (l:List a6) (p:a6):(nR (l++[p])).flatten=(nR l).flatten++p.cells:=by simp [nR]
theorem am9 {u:av} {a:ax} {n cap:Nat} {L:List a6} (aq:bu u hs 9 a n cap (nR L).flatten) {p:a6} (bA:n<=1000000) {K:Nat->ax->Nat->Nat->aV}
  (J:∀ b ap bU aY,b=u.heap.size->bu aY hs 9 ap (n+1) bU (nR (L++[p])).flatten->ay (a7 a) u aY->(∀ k,a7 ap k->a7 a k\/u.heap.size<=k)->K b ap (n+1) bU aY) :
  ∀ b1 aS,b1=u.heap.size->aS=u.alloc (.cells p.cells.toArray hs)->∃ (ap:ax) (h_ h9:Nat),∃ aY,(Builtin.append_ #[37,37] 37 #[(.slice a n cap),(.slice (some ⟨b1,0,none⟩) 1 1)]).run prog aS=.ok (.slice ap h_ h9) aY/\K b1 ap h_ h9 aY:=by
 obtain ⟨inf,aD,aE,cr,gm⟩:=j5 (T:=hs) (z:=.agg #[.int .i64 0,.int .u64 0,.int .u64 0,.int .u64 0,.int .u64 0,.int .u64 0,.int .u64 0,.int .u64 0,.int .u64 0]) (n:=9) (m:=72) (by kernel_rfl);rw [<-cr] at aq;refine As Tryz.underlying37 aD aE (by rw [cr];rfl) (by omega) aq (by rw [cr];rfl) (a6.single p) (by omega) (by omega) ?_;intro b ap bU aY af al;rw [cr,<-ahD] at al;exact J b ap bU aY af al
theorem H_ {n i:Nat} (h:i<n):(stM n)[i]?=some ⟨(i:Int),1,true⟩:=by simp [stM,h]
theorem X_ (w:av) (c:Int):bK 41 [.int .i64 c] w λv w'=>v=.bool (decide (0<=c/\c<6))/\w'=w:=by
 refine bO Tryz.func41 ?_;rw [ay5];refine bL (λh=>⟨?_,rfl⟩) (λh=>⟨?_,rfl⟩)
 ·have h:0<=c:=h;congr 1;simp [h]
 ·have h:¬ 0<=c:=h;congr 1;simp [h]
theorem Zs (w:av) {i:Nat} (aD:i<6):bK 49 [.int .i64 i] w λv w'=>v=.int .i64 (32+i:Nat)/\w'=w:=by refine bO Tryz.func49 ?_;rw [aze];refine aR (X_ w (i:Int)) ?_;rintro v u ⟨rfl,rfl⟩;refine ⟨_,rfl,eX (by simp;omega) ⟨?_,rfl⟩⟩;rw [cn (by omega) (by omega)];congr 1
theorem Z5 (w:av) {i:Nat} (aD:i<6):bK 50 [.int .i64 i] w λv w'=>v=.int .i64 (24+i:Nat)/\w'=w:=by refine bO Tryz.func50 ?_;rw [azC];refine aR (X_ w (i:Int)) ?_;rintro v u ⟨rfl,rfl⟩;refine ⟨_,rfl,eX (by simp;omega) ⟨?_,rfl⟩⟩;rw [cn (by omega) (by omega)];congr 1
structure YC (a b:bt) (lines:Nat):Prop where
 up:b.down=false
 g6:∀ l,96<=l->l<lines->a.g6 l=b.g6 l/\a.get (l * 8) % 256=0
 clock:∀ c,c<6->a.get (32+c)=b.get (32+c)/\a.get (24+c)=b.get (24+c)
structure YD (X:cF) (n lines:Nat):Prop where
 len:X.nodes.length=n
 eq:∀ (i:Nat) (x e9:mm),X.nodes[i]?=some x->X.nodes[0]?=some e9->YC e9.n x.n lines
 aet:∀ (i:Nat) (x:mm),X.nodes[i]?=some x->lines * 8<=x.n.words.length
 hH:lines<=256
 many:98<=lines
theorem akP {A:bB} {aG:Nat->Tag} {w:av} {a3:Nat} {X:cF} (h:c4 A aG w a3 X) {i:Nat} {x:mm} (ao:X.nodes[i]?=some x) {q:Nat} (e:x.n.get q % 256=0):jC .u64 (x.n.get q) 255=0:=by obtain ⟨aN,af⟩:=(h.node i x ao).node.V6 q;have ak:jC .u64 (x.n.get q) ((2 ^ 8 - 1:Nat):Int)=x.n.get q % (2 ^ 8:Nat):=WH aN af 8 (by omega);have ak:jC .u64 (x.n.get q) 255=x.n.get q % 256:=ak;rw [ak,e]
theorem am_ {A:bB} {aG:Nat->Tag} {w:av} {a3:Nat} {X:cF} (h:c4 A aG w a3 X) {n lines:Nat} (aM:YD X n lines) {a:ax} {PZ:Nat} (aA:bW w a (kL (stM n)).flatten) (a1:n<=5) :
  bK 27 [ptr a3,.slice a n PZ,.int .i64 lines] w λv u=>v=.bool true/\ai w u:=by
 have m6:=aM.hH;have apN:=aM.many;refine bO Tryz.func27 ?_;rw [ptr,wn];refine e2 mix (λq env z=>∃ (i:Nat) (aT:aH),q=n - i/\i<=n/\env=PF ⟨a3,0,none⟩ a n PZ lines i aT/\ai w z) n ⟨0,_,rfl,by omega,rfl,ay.refl _ _⟩ ?_;rintro q env z ⟨i,aT,rfl,aD,rfl,aj⟩;rw [awu];refine bL (λaK=>?_) (λhQ=>?_)
 rotate_left
 ·rw [ayc];exact ⟨rfl,aj⟩
 have hR:i<n:=by omega
 obtain ⟨x,ao⟩:∃ x,X.nodes[i]?=some x:=⟨_,cp (by rw [aM.len];exact hR)⟩;obtain ⟨e9,pt⟩:∃ x,X.nodes[0]?=some x:=⟨_,cp (by rw [aM.len];omega)⟩;have e:=aM.eq i x e9 ao pt;have iN:=aM.eq 0 e9 e9 pt pt;have aD0:=aM.aet i x ao;have aD1:=aM.aet 0 e9 pt;refine e2 mix (λq env z=>∃ (l:Nat) (aT:aH),q=lines - l/\96<=l/\l<=lines/\env=PG ⟨a3,0,none⟩ a n PZ lines i l aT/\ai w z) (lines - 96) ⟨96,_,rfl,by omega,by omega,rfl,aj⟩ ?_;rintro q env dq ⟨l,PM,rfl,BV,au,rfl,a5⟩;rw [awv];refine bL (λg3=>?_) (λg3=>?_)
 ·have g3:l<lines:=by omega
  refine hq (cells:=bp.cells) bp.len (by omega) (aA.new a5) (H_ (i:=0) (by omega)) rfl (CE n).symm λb o _ ab=>⟨_,ab 0 _ rfl,?_⟩
  refine aR (FN (h.new a5) pt (l:=l) (by omega) (by omega) iN.up) ?_;rintro v ct ⟨rfl,bf⟩;refine a6.bd (e9.n.g6 l) ⟨true,rfl,?_⟩;refine g0 (vs:=(e9.n.g6 l).cells) rfl (a6.single _) λb1 cS bA bm bz=>?_
  have jG:=(a5.new bf).new bz;refine hq (cells:=bp.cells) bp.len (by omega) (aA.new jG) (H_ (i:=i) hR) rfl (CE n).symm λb o _ ab=>⟨_,ab 0 _ rfl,?_⟩
  refine aR (FN (h.new jG) ao (l:=l) (by omega) (by omega) e.up) ?_;rintro v b2 ⟨rfl,bH⟩;refine a6.bd (x.n.g6 l) ⟨true,rfl,?_⟩;refine g0 (vs:=(x.n.g6 l).cells) rfl (a6.single _) λaP c6 cv bP cg=>?_
  have oQ:=ai.an (bH.new cg) bm;refine eX rfl (eX rfl ?_);refine a6.bd (e9.n.g6 l) ⟨cD oQ rfl,a6.bd (x.n.g6 l) ⟨cD bP rfl,?_⟩⟩;rw [<-(e.g6 l BV g3).1];refine aiV _ (eX rfl ⟨_,oQ.cell (i:=1) rfl,fX (λed=>absurd (akP h pt (e.g6 l BV g3).2) ed) λ_=>?_⟩)
  rw [cn (x:=(l:Int)+1) (by omega) (by omega)];exact ⟨lines - (l+1),by omega,l+1,_,rfl,by omega,by omega,rfl,(jG.new bH).new cg⟩
 ·rw [axK];refine e2 mix (λq env z=>∃ (c:Nat) (aT:aH),q=6 - c/\c<=6/\env=PH ⟨a3,0,none⟩ a n PZ lines i c aT/\ai w z) 6 ⟨0,_,rfl,by omega,rfl,a5⟩ ?_;rintro q env h5 ⟨c,aEJ,rfl,oc,rfl,bf⟩;rw [aww];refine bL (λg3=>?_) (λg3=>?_)
  ·have g3:c<6:=by omega
   obtain ⟨s',apr⟩:=e.clock c g3;rintro w1 br;have bz:ai w w1:=by rw [br];exact bf.new (eh _)
   clear br;refine ⟨λy=>ai w1 y,ay.refl _ _,pw (cells:=bp.cells) bp.len (by omega) (aA.new bz) (H_ (i:=0) (by omega)) rfl (CE n).symm λb o ab=>⟨_,λu hu=>ab u hu 0 _ rfl,?_⟩⟩;refine aR (Zs _ g3) ?_;rintro v u ⟨rfl,rfl⟩;refine ⟨_,rfl,ay.refl _ _,?_⟩;refine aR (MU (h.new bz) pt (at_:=32+c) (by omega) iN.up) ?_;rintro v cS ⟨rfl,bH⟩;refine ⟨_,_,rfl,?_⟩;rintro aS cG;have cg:ai w aS:=by rw [cG];exact (bz.new bH).new (eh _)
   clear cG;refine ⟨λy=>ai aS y,ay.refl _ _,pw (cells:=bp.cells) bp.len (by omega) (aA.new cg) (H_ (i:=i) hR) rfl (CE n).symm λb o ab=>⟨_,λu hu=>ab u hu 0 _ rfl,?_⟩⟩;refine aR (Zs _ g3) ?_;rintro v u ⟨rfl,rfl⟩;refine ⟨_,rfl,ay.refl _ _,?_⟩;refine aR (MU (h.new cg) ao (at_:=32+c) (by omega) e.up) ?_;rintro v b2 ⟨rfl,dg⟩;refine ⟨_,_,rfl,?_⟩;rintro aY dY;have eT:ai w aY:=by rw [dY];exact (cg.new dg).new (eh _)
   clear dY;refine ⟨λy=>ai aY y,ay.refl _ _,pw (cells:=bp.cells) bp.len (by omega) (aA.new eT) (H_ (i:=0) (by omega)) rfl (CE n).symm λb o ab=>⟨_,λu hu=>ab u hu 0 _ rfl,?_⟩⟩;refine aR (Z5 _ g3) ?_;rintro v u ⟨rfl,rfl⟩;refine ⟨_,rfl,ay.refl _ _,?_⟩;refine aR (MU (h.new eT) pt (at_:=24+c) (by omega) iN.up) ?_;rintro v c6 ⟨rfl,gJ⟩;refine ⟨_,_,rfl,?_⟩;rintro bZ eE;have lW:ai w bZ:=by rw [eE];exact (eT.new gJ).new (eh _)
   clear eE;refine ⟨λy=>ai bZ y,ay.refl _ _,pw (cells:=bp.cells) bp.len (by omega) (aA.new lW) (H_ (i:=i) hR) rfl (CE n).symm λb o ab=>⟨_,λu hu=>ab u hu 0 _ rfl,?_⟩⟩;refine aR (Z5 _ g3) ?_;rintro v u ⟨rfl,rfl⟩;refine ⟨_,rfl,ay.refl _ _,?_⟩;refine aR (MU (h.new lW) ao (at_:=24+c) (by omega) e.up) ?_;rintro v ff ⟨rfl,nN⟩;refine ⟨_,_,rfl,eX rfl (eX rfl (eX rfl (eX rfl (fX (λed=>absurd s' ed) λ_=>fX (λed=>absurd apr ed) λ_=>?_))))⟩
   rw [cn (x:=(c:Int)+1) (by omega) (by omega)];exact ⟨6 - (c+1),by omega,c+1,_,rfl,by omega,rfl,lW.new nN⟩
  ·rw [axL];rw [cn (x:=(i:Int)+1) (by omega) (by omega)];exact ⟨n - (i+1),by omega,i+1,_,rfl,by omega,rfl,bf⟩
end
section
open iH
def Nc (x q:Nat):Bool:=(x+1) / 2 ^ q % 2 == 1
def wC (x i:Nat):eI:=((List.range i).filter (Nc x)).map (96+·)
def hi (x:Nat):eI:=wC x 4
def cm (l:eI):bR:=l.map Int.ofNat
theorem af8 (x i:Nat):wC x (i+1)=wC x i++(if Nc x i=true then [96+i] else []):=by unfold wC;rw [rK,WT,pB];congr 1;cases h:Nc x i<;>simp [h]
theorem aiW:∀ x,x<14->∀ i,i<4->(jC .i64 (fr .i64 (((x+1:Nat):Int)) ((i:Nat):Int)) 1 == 1)=Nc x i:=by decide
theorem Qm {x l:Nat} (h:l ∈ hi x):96<=l/\l<100:=by simp only [hi,wC,eQ,Ik,jT] at h;obtain ⟨q,⟨af,_⟩,rfl⟩:=h;omega
theorem ahF (x i:Nat):(wC x i).length<=i:=by unfold wC;rw [jS];exact ud (Mj _ _) (by simp)
theorem Qe:∀ y,y<14->1<=(hi y).length/\(hi y).length<=3:=by decide
def ql (l:Nat):a6:=⟨l,256,1,0,0,0,0,0,0⟩
def LA (n y:Nat):eP:=⟨0,1,101,rD n,[],(hi y).map ql⟩
def lL (n y:Nat):Env:=⟨n,101,IS,λ_=>0,[0],λ_=>LA n y,false⟩
theorem aio:∀ n,n<3->∀ y,y<14->(LA (n+1) y).valid=0:=by decide +kernel
theorem aip:∀ y,y<14->jD 1 ((hi y).map ql) 101=0:=by decide +kernel
theorem ani:ii 256 0≠t_ 256:=by decide
theorem FG {n y:Nat} {p:a6}:p ∈ cA (lL n y)↔∃ l,l ∈ hi y/\p=ql l:=by show p ∈ (hi y).map ql↔_;rw [eQ];exact ⟨λ⟨l,af,al⟩=>⟨l,af,al.symm⟩,λ⟨l,af,al⟩=>⟨l,af,al.symm⟩⟩
theorem IT {n y:Nat} (aj:1<=n/\n<=3) (az:y<14):di (lL n y):=by
 have aw:(LA n y).valid=0:=by have:=aio (n - 1) (by omega) y az;rw [show n - 1+1=n by omega] at this;exact this
 have ab:=Qe y az;have c_:hx (lL n y) 0 ((lL n y).bG 0):=hx.awA aw rfl (by omega) rfl rfl (λe=>by have e:(hi y).map ql=[]:=e;have:=congrArg List.length e;rw [jS] at this;simp at this;rw [this] at ab;simp at ab) (λp ar=>by obtain ⟨l,_,rfl⟩:=FG.1 ar;rfl) (λs aX=>by cases aX)
 refine ⟨⟨⟨aj.1,by show n<=5;omega⟩,⟨by show 98<=101;omega,by show 101<=256;omega⟩,by show ([0]:eI).Nodup;simp,λi aD=>?_⟩,rfl,rfl,λp ar=>?_,aip y az,λp ar x ao=>?_,λp ar=>?_,⟨by show (0:Int)<=0;omega,by show (0:Int)<1;omega⟩,λl _ _=>rfl⟩
 ·have:i ∈ ([0]:eI):=aD;simp at this;subst this;exact c_
 ·obtain ⟨l,_,rfl⟩:=FG.1 ar;exact ani
 ·obtain ⟨l,_,rfl⟩:=FG.1 ar;simp [mZ,ql] at ao;rcases ao with rfl | rfl<;>exact ⟨by omega,by omega⟩
 ·obtain ⟨l,_,rfl⟩:=FG.1 ar;exact ⟨by show (0:Int)<=256;omega,by show (256:Int)<_;omega⟩
def uj:cd:=⟨λ_ _=>0,λ_=>false,λ_=>false,λ_=>false,λ_=>false,0⟩
def Z6 (n:Nat):Bool:=(fmt 101 n).getD 48 0 == 0 && (fmt 101 n).getD 49 0 == 0
theorem QF {n:Nat} (aj:1<=n/\n<=3):Mq n 101=true/\Z6 n=true:=by
 obtain rfl | rfl | rfl:n=1\/n=2\/n=3:=by omega
 all_goals exact ⟨by kernel_rfl,by kernel_rfl⟩
theorem akQ {n y k:Nat} (aj:1<=n/\n<=3) (az:y<14) (J:4<=k/\k<=6):ln (lL n y) [] (a9.fresh n k 101) uj ⟨8,mn⟩ λ_=>ye 12:=by
 obtain ⟨h,hm⟩:=QF aj;simp only [Mq,iz,lM,jT,beq_iff_eq] at h;obtain ⟨af,al,aL,ca,c9⟩:=h;simp only [Z6,iz,beq_iff_eq] at hm;have ao:∀ (m:Nat) (x:bt),(a9.fresh n k 101).nodes[m]?=some x->x=⟨fmt 101 n,false⟩:=λm x e=>by have e:=dn e;exact (WX.1 e).2
 have c7:∀ (i:Nat) (C:cT),(a9.fresh n k 101).bl[i]?=some C->rG n C/\C.batch=none/\mO C:=λi C e=>by
  have e:=dn e;obtain ⟨q,aM,rfl⟩:=eQ.1 e;have Km:∀ (k:Nat) (l:eM),(ng n q).aU[k]?=some l->l.pair.bN=[]/\l.pair.words=[]:=λk l au=>by have au:=dn au;unfold ng r0 at au;simp only at au;obtain ⟨z,aE,rfl⟩:=eQ.1 au;exact ⟨rfl,rfl⟩
  refine ⟨⟨rfl,rfl,by simp [ng,r0],λk l au v im e _=>?_⟩,rfl,λk l au=>(Km k l au).1⟩;rw [(Km k l au).1] at e;cases e
 have aN:(a9.fresh n k 101).bl[0]?=some (ng n 0):=by show ((List.range k).map (ng n))[0]?=_;rw [gV,rM (by omega)];rfl
 have gj:∀ m,Mem (lL n y) uj m ⟨fmt 101 n,false⟩:=λm=>by
  refine ⟨⟨rfl,af,al,aL,(ca 0 (by omega)).1,λc _ ab=>(ca c ab).1⟩,λp ar=>?_,λl ft l2 _ k J=>?_,λc _ ab=>(ca c ab).2,(ca 0 (by omega)).2,hm.1,λ_=>hm.2,λe=>by cases e⟩
  ·obtain ⟨l,au,rfl⟩:=FG.1 ar;obtain ⟨ft,l2⟩:=Qm au;show ∀ k,k<8->_;intro k J;have:=c9 (l - 96) (by omega) k J;rw [show l - 96+96=l by omega] at this;exact this
  ·have l2:l<101:=l2;have:=c9 (l - 96) (by omega) k J;rw [show l - 96+96=l by omega] at this;exact this
 obtain ⟨iU,lG,p3⟩:=c7 0 _ aN;refine ⟨dK.fresh (by omega) (by omega) (by omega),rfl,rfl,by simp [a9.fresh];omega,⟨by show (a9.fresh n k 101).nodes.length=n;simp [a9.fresh],λm x e=>by rw [ao m x e];exact gj m⟩,?_,.inl rfl,⟨_,aN,iU,λe=>by have:8<=4:=e;omega,λ_=>⟨lG,p3⟩⟩,trivial,(λq d e=>by cases e),λ_=>⟨λ_ _=>rfl,λ_ _=>rfl,λ_ _ _ _=>rfl⟩,λc ab=>(by cases ab),λc ab=>(by cases ab),λ⟨p,_,e⟩=>by have:(0:Nat)=1:=e;omega,λ_ _=>rfl,λc C _ _ e=>c7 c C e⟩;have no:∀ {P:Prop},false=true->P:=λh=>by cases h
 exact ⟨λm _ p _=>⟨by show 0<=2;omega,λ_=>by show (0:Nat)≠1;omega⟩,λm _ e=>no e,λm _ p _ e=>(by have:(0:Nat)=2:=e;omega),λm _ e=>no e,λp _ e=>(by have:(0:Nat)=2:=e;omega),λe=>no e,λm _ _ e=>no e⟩
theorem ln.join {E:Env} {F:a9} {A:cd} {g:kt} {gr:Nat->fa} (h:ln E [] F A g gr) {rs:eI} (gS:∀ c ∈ rs,1<=c/\c<4):ln E rs F A g λ_=>ye 12:=by
 have vK:∀ {P:Prop},(12:Nat)<=9->P:=λh=>by omega
 refine ⟨h.kT,h.lines,h.nk,h.Gn,h.rep,h.law,?_,h.d9,h.EO,h.Lw,h.P5,λc ym=>?_,λc ym=>⟨trivial,⟨λe=>by have:12<=7:=e.2;omega,λe=>by have:12=8:=e;omega⟩,(λq d e=>by cases e),eJ _⟩,h.Lg,(λ_=>h.op λc ab=>by cases ab),λc C af al aL=>h.rest c C af (by simp) aL⟩
 ·rcases h.LC with e | ⟨c,ab,_⟩
  ·exact .inl e
  ·cases ab
 ·have:=gS c ym;have ca:=h.Gn;obtain ⟨C,b0⟩:∃ C,F.bl[c]?=some C:=⟨_,cp (by omega)⟩;obtain ⟨r1,ko,nZ⟩:=h.rest c C (by omega) (by simp) b0;exact ⟨C,b0,r1,λe=>vK e,λ_=>⟨ko,nZ⟩⟩
theorem Zt {n:Nat}:∀ {ls:List eM} {j:Nat},(∀ (i:Nat) (l:eM),ls[i]?=some l->l.pair.node=((j+i:Nat):Int))->((((ls.map eM.pair).filter λp=>decide (0<p.bN.length)).map λp=>p.node.toNat)).Pairwise (·<·)/\∀ q ∈ (((ls.map eM.pair).filter λp=>decide (0<p.bN.length)).map λp=>p.node.toNat),j<=q
 | [],j,h=>by simp
 |l::ls,j,h=>by
  obtain ⟨af,al⟩:=Zt (n:=n) (ls:=ls) (j:=j+1) λi l' au=>by have:=h (i+1) l' (by simpa using au);rw [this];omega
  have aN:=h 0 l rfl;by_cases aw:0<l.pair.bN.length
  ·rw [kQ,List.filter_cons_of_pos (by simpa using aw),kQ];refine ⟨WM.2 ⟨λq aM=>?_,af⟩,λq aM=>?_⟩
   ·have:=al q aM;rw [aN];omega
   ·rcases iF.1 aM with e | e
    ·rw [e,aN];omega
    ·have:=al q e;omega
  ·rw [kQ,List.filter_cons_of_neg (by simpa using aw)];exact ⟨af,λq aM=>by have:=al q aM;omega⟩
theorem ln.die {E:Env} {rs:eI} {F:a9} {A:cd} {g:kt} {gr:Nat->fa} (h:ln E rs F A g gr):∃ ew,F.die ((0:Nat):Int)=(true,ew)/\kx ew F:=by
 obtain ⟨C,b0,ak,_⟩:=h.d9;have gu:=h.kT.du.ok.bw 0 C b0;have aK:=dy b0;refine ⟨{ F with cN:=F.cN++(C.aU.map eM.pair).filter (λp=>decide (0<p.bN.length)),bl:=F.bl.set 0 { C with alive:=false,aU:=[],batch:=none,waiting:=0 } },?_,.inr ⟨rfl,rfl,λk J=>nC λe=>J e.symm,λC' uD=>?_,λp ar=>?_,?_⟩⟩
 ·unfold a9.die;rw [qC,b0];simp only;rw [if_neg (by rw [ak.live];simp),j_]
 ·simp only [qe aK] at uD;cases uD;rfl
 ·simp only [h.nk,xN] at ar;obtain ⟨kh,mI⟩:=Ik.1 ar;obtain ⟨l,au,rfl⟩:=eQ.1 kh;obtain ⟨j,c_⟩:=hn.1 au;have aj:=(gu.lane j l c_).node;refine ⟨C,l,b0,by rw [aj];simpa using c_,rfl,λe=>?_⟩
  rw [e] at mI;simp at mI
 ·simp only [h.nk,xN];exact ((Zt (n:=0) (ls:=C.aU) (j:=0) λi l au=>by rw [(gu.lane i l au).node];omega).1).imp λh=>by omega
def Lm (b:Bool) (l:Nat):a6:=if b=true then ⟨l,512,1,0,0,0,0,0,0⟩ else ⟨l,256,0,0,0,0,0,0,0⟩
structure C_ (n y:Nat) (b:Bool) (nodes:List bt):Prop where
 len:nodes.length=n
 up:∀ (m:Nat) (x:bt),nodes[m]?=some x->x.down=false/\x.words.length=808
 g6:∀ (m:Nat) (x:bt),nodes[m]?=some x->∀ l,96<=l->l<101->x.g6 l=Lm (b && (hi y).contains l) l
 same:∀ (m:Nat) (x:bt),nodes[m]?=some x->∀ c,c<6->x.get (24+c)=(if c=0 then 2 else 1)/\x.get (32+c)=if b=true/\c=0 then 1 else 0
theorem akR:t_ 256=512:=by decide
theorem Z7 {n y:Nat} (aj:1<=n/\n<=3) (az:y<14) {A:cd} {nodes:List bt} (cC:qi (lL n y) A nodes) (bE:iI (lL n y) A) (aC:pD (lL n y) A) {b:Bool} (ak:if b=true then zq (lL n y) A else FZ (lL n y) A):C_ n y b nodes:=by
 have aI:=IT aj az;have aK:∀ {m:Nat} {x:bt},nodes[m]?=some x->m<n:=λ{m x} ao=>by have:=dy ao;rw [cC.len] at this;exact this
 have dH:∀ m,m<n->∀ p ∈ cA (lL n y),A.cO m (b9 p)=if b=true then 2 else 0:=λm hm p ar=>by
  cases b with
  |true=>
   have aJ:zq (lL n y) A:=ak;show A.cO m (b9 p)=2;by_cases e:m=0
   ·subst e;exact aJ.2.2 p ar
   ·exact bE.tG m (by omega) hm (bE.sy aJ.2.1 m (by omega) hm) p ar
  |false=>
   have aJ:FZ (lL n y) A:=ak;show A.cO m (b9 p)=0;by_cases e:m=0
   ·subst e;exact aJ.2.2 p ar
   ·have aN:=bE.eU m hm p ar;have af:=aN.2 (by omega);have al:A.cO m (b9 p)≠2:=λbg=>by have:=bE.oS m hm p ar bg 0 (by show 0<n;omega);rw [aJ.2.1 0 (by show 0<n;omega)] at this;cases this
    omega
 have vW:∀ m,m<n->A.gq m=b:=λm hm=>by
  cases b with
  |true=>
   have aJ:zq (lL n y) A:=ak;by_cases e:m=0
   ·subst e;exact aJ.2.1
   ·exact bE.sy aJ.2.1 m (by omega) hm
  |false=>
   have aJ:FZ (lL n y) A:=ak;cases ab:A.gq m with
   |false=>rfl
   |true=>have:=bE.wz m hm ab 0 (by show 0<n;omega);rw [aJ.2.1 0 (by show 0<n;omega)] at this;cases this
 refine ⟨cC.len,λm x ao=>⟨(cC.mem m x ao).ba.up,(cC.mem m x ao).ba.len⟩,λm x ao l af al=>?_,λm x ao c ab=>⟨?_,?_⟩⟩
 ·have hm:=cC.mem m x ao;have tq:=aK ao;have key:∀ k,k<8->x.get (l * 8+k)=if (b && (hi y).contains l)=true then ([512,1,0,0,0,0,0,0]:bR).getD k 0 else IS l k:=λk J=>by
   by_cases gE:l ∈ hi y
   ·have ar:ql l ∈ cA (lL n y):=FG.2 ⟨l,gE,rfl⟩;have a':=hm.cO _ ar;rw [dH m tq _ ar] at a';have ab:(hi y).contains l=true:=WR.2 gE;rw [ab];cases b with
    |true=>
     have a':∀ k,k<8->x.get (l * 8+k)=(oE (ql l)).getD k 0:=a';rw [a' k J,if_pos (by simp)];have:oE (ql l)=[512,1,0,0,0,0,0,0]:=by show t_ 256::_=_;rw [akR];rfl
     rw [this]
    |false=>have a':∀ k,k<8->x.get (l * 8+k)=IS l k:=a';rw [a' k J,if_neg (by simp)]
   ·have ab:¬ ((b && (hi y).contains l)=true):=λe=>by rw [iz] at e;exact gE (WR.1 e.2)
    rw [if_neg ab];exact hm.ld l af al (λp ar e=>by obtain ⟨l',hl,rfl⟩:=FG.1 ar;have e:l'=l:=e;exact gE (by rw [<-e];exact hl)) k J
  have uC:=key 0 (by omega);rw [vp] at uC;unfold bt.g6 Lm;rw [uC,key 1 (by omega),key 2 (by omega),key 3 (by omega),key 4 (by omega),key 5 (by omega),key 6 (by omega),key 7 (by omega)];split<;>rfl
 ·by_cases e:c=0
  ·subst e;have:=(cC.mem m x ao).ba.d0;rw [aC m (aK ao)] at this;exact this
  ·rw [if_neg e];exact (cC.mem m x ao).ba.gP c (by omega) ab
 ·by_cases e:c=0
  ·subst e;have:=(cC.mem m x ao).gq;rw [vW m (aK ao)] at this;cases b with
   |true=>rw [if_pos ⟨rfl,rfl⟩];exact this
   |false=>rw [if_neg (by simp)];exact this
  ·rw [if_neg (λh=>e h.2)];exact (cC.mem m x ao).et c (by omega) ab
theorem C_.apv {n y:Nat} {b:Bool} {nodes:List bt} (h:C_ n y b nodes) {i:Nat} {x e9:bt} (ao:nodes[i]?=some x) (aN:nodes[0]?=some e9):YC e9 x 101:=by
 refine ⟨(h.up i x ao).1,λl af al=>⟨?_,?_⟩,λc ab=>⟨?_,?_⟩⟩
 ·rw [h.g6 i x ao l af al,h.g6 0 e9 aN l af al]
 ·have:=h.g6 0 e9 aN l af al;have aL:(e9.g6 l).Head=e9.get (l * 8):=rfl;rw [<-aL,this];unfold Lm;split<;>rfl
 ·rw [(h.same i x ao c ab).2,(h.same 0 e9 aN c ab).2]
 ·rw [(h.same i x ao c ab).1,(h.same 0 e9 aN c ab).1]
end
namespace mA
abbrev h8:=dx
abbrev lO:TypeId:=45
abbrev aaF:TypeId:=46
structure io (A:bB) (w:av) (r:h8) (t:dB conv):Prop where
 kind:r.Kind=akU t.cH
 bw:r.Client=t.bw
 ix:r.xY=t.ix
 bad:r.zm=t.bad
 bD:nh A w r.IK t.bD
 gB:r.F_=t.bD.length
 gc:r.F_<=r.RS
 cH:M9 A w r t.cH
 out:Nn A w r t.out
 len:t.bD.length<=201
theorem io.aO {A A':bB} {w w':av} {r:h8} {t:dB conv} (h:io A w r t) (J:ay A w w') (c1:∀ k,k<w.heap.size->A' k->A k):io A' w' r t:=
 ⟨h.kind,h.bw,h.ix,h.bad,h.bD.aO J c1,h.gB,h.gc,h.cH.aO J c1,h.out.aO J c1,h.len⟩
theorem io.fail {A:bB} {w:av} {r:h8} {t:dB conv} (h:io A w r t):io A w { r with xY:=true,zm:=true } t.fail:=
 ⟨h.kind,h.bw,rfl,rfl,h.bD,h.gB,h.gc,h.cH,h.out,h.len⟩
theorem FO {z:av} {b1 aP:Nat} {r:h8} {cs:aH} {R:dW} (bA:aF z b1 r.cells lO) (cv:aF z aP cs lO) (ab:cs.length=36) (cC:∀ w',ay (λk=>k=aP) z w'->R r.val w') :
  dx.ex λx=>df z ⟨b1,0,none⟩ 0 x.cells/\ha z ⟨aP,0,none⟩ 0 x.cells/\∀ w',w'=dO z ⟨aP,0,none⟩ 0 x.cells->dx.ex λy=>df w' ⟨aP,0,none⟩ 0 y.cells/\w'=w'/\R y.val w':=by
 refine dx.bd r ⟨cD bA rfl,?_⟩;refine gL (vs:=r.cells) cv (by rw [ab];rfl) (dx.single r) λw' pg dQ=>?_
 exact dx.bd r ⟨cD pg rfl,rfl,cC w' dQ⟩
def F6 (A:bB) (aG:Nat->Tag) (w:av) (a3:Nat) (x:a9×dB conv) (v:bx) (w':av):Prop:=
 gQ A aG w a3 x.1 w' λB=>∃ r:h8,v=r.val/\io B w' r x.2
theorem Nd {A:bB} {aG:Nat->Tag} {w z w':av} {a3 b1 aP:Nat} {B:bB} {f0:Nat->Tag} {X:cF} {r:h8} {t:dB conv} (h:jA A aG w a3 (λk=>k=b1\/k=aP) z B f0 X) (aZ:io (λk=>B k\/k=b1\/k=aP) z r t) (J:ay (λk=>k=aP) z w') :
  F6 A aG w a3 (X.pure,t) r.val w':=
 (h.local J λ_ e=>.inr e).done ⟨r,rfl,aZ.aO (J.mono λ_ _ e=>.inr (.inr e)) λk _ ak=>.inl ak⟩
def nj (ts:List (h8×dB conv)):List aH:=ts.map λx=>x.1.cells
theorem Hy (ts:List (h8×dB conv)):∀ r ∈ nj ts,r.length=36:=by intro r aA;simp only [nj,eQ] at aA;obtain ⟨x,_,rfl⟩:=aA;rfl
theorem WZ {ts:List (h8×dB conv)} {i:Nat} {x:h8×dB conv} (h:ts[i]?=some x):(nj ts)[i]?=some x.1.cells:=by simp [nj,h]
theorem ahG (ts:List (h8×dB conv)):∀ u ∈ (nj ts).flatten,single u=true:=by intro u hu;obtain ⟨r,aA,atA⟩:=A4.1 hu;simp only [nj,eQ] at aA;obtain ⟨x,_,rfl⟩:=aA;exact dx.single _ u atA
end mA
namespace mA
theorem anj {A:bB} {z:av} {r:h8} {t:dB conv} (h:io A z r t) (oe:∀ k,A k->k<z.heap.size) :
  bK 65 [r.val] z λv e'=>ai z e'/\∃ (aa:ax) (ac:Nat) (dD:List a0) (e1:h8),v=.tuple #[.slice aa dD.length ac,e1.val]/\bW e' aa (gG dD).flatten/\(∀ k,a7 aa k->z.heap.size<=k)/\hp (λk=>k<z.heap.size) e' dD (conv.next t.cH t.bD).1/\io A e' e1 t.told:=by
 refine bO Tryz.func65 ?_;rw [azd];rintro b1 ct bA gx;obtain ⟨bm,a1⟩:=b4 bA gx;have bm:aF ct b1 r.cells lO:=bm;clear gx;rintro aP cS cv ki;obtain ⟨bP,a5⟩:=b4 cv ki;obtain ⟨Jj,bP,yn⟩:∃ cs,aF cS aP cs lO/\cs.length=r.cells.length:=⟨_,bP,rfl⟩;clear ki;have ja:=a1.new a5;have fI:=a1.size;have jc:=a5.size;have g3:=bm.lt;have nM:=bP.lt;have gM:=ai.an a5 bm;cases GR:t.cH with
 |inl lp=>
  have J:r.Kind=3:=by rw [h.kind,GR];rfl
  have TY:iH.Dc A z r.o4 lp:=by have:=h.cH;rw [GR] at this;exact this
  have Pf:t.told={ t with ix:=(g1 lp t.bD).2.2,out:=.inl (g1 lp t.bD).2.1 }:=by unfold dB.told;rw [GR];rfl
  have hS:conv.next (.inl lp) t.bD=((g1 lp t.bD).1,.inl (g1 lp t.bD).2.1,(g1 lp t.bD).2.2):=rfl;refine ⟨_,gM.cell (i:=0) rfl,eX (by rw [J];rfl) (eX (by rw [J];rfl) (g8 (by rw [J];rfl) ?_))⟩;refine fW.bd r.o4 ⟨cD gM rfl,_,_,_,gM.cell (i:=23) rfl,?_⟩;have pS:ay A z cS:=ay.db ja;have c_:iH.Dc A cS r.o4 lp:=TY.aO (A':=A) pS λ_ _ e=>e
  have a':=h.bD.aO (A':=A) pS λ_ _ e=>e
  have ij:=amj c_.at_ (λ_=>c_.uB) a' h.gB h.gc;refine aR ij ?_;rintro v b2 ⟨aa,ac,dD,rfl,bf,dw,fH,eb⟩;refine ⟨_,_,_,cl.bd ⟨(g1 lp t.bD).2.1.1,(g1 lp t.bD).2.1.2⟩ ⟨(g1 lp t.bD).2.2,rfl,?_⟩⟩;refine g0 (vs:=cl.cells ⟨(g1 lp t.bD).2.1.1,(g1 lp t.bD).2.1.2⟩) rfl (cl.single _) λbT c6 ej dk bz=>?_
  rintro ff sr;have bH:ai c6 ff:=by rw [sr];exact eh _
  clear sr;have j2:=bf.size;have pq:=bz.size;have nQ:=bH.size;have Al:=ai.an bH dk;have mh:=(bf.new bz).new bH;have om:=ai.an mh gM;have K5:=ai.an mh bP;refine ⟨λy=>aF y bT (cl.cells ⟨(g1 lp t.bD).2.1.1,(g1 lp t.bD).2.1.2⟩) h7,Al,_,λy az=>az.cell (i:=0) rfl,_,λy az=>az.cell (i:=1) rfl,?_⟩;refine sQ om (i:=24) rfl λjP e4 eu=>⟨eu.an Al (by omega),?_⟩
  refine sQ e4 (i:=26) rfl λmU fQ eD=>⟨eD.an (eu.an Al (by omega)) (by omega),?_⟩
  refine sQ fQ (i:=32) rfl λu8 gN fe=>?_
  rintro iy tz;have gJ:ai u8 iy:=by rw [tz];exact eh _
  clear tz;have Kf:ay (λk=>k=b1) ff u8:=(eu.trans eD λ_ _ e=>e).trans fe λ_ _ e=>e
  have gN:aF u8 b1 (dx.cells { r with xY:=(g1 lp t.bD).2.2,Code:=(g1 lp t.bD).2.1.1,Db:=(g1 lp t.bD).2.1.2 }) lO:=gN;have kI:=ai.an gJ gN;have K6:aF iy aP Jj lO:=ai.an gJ (Kf.an K5 (by omega));have BT:ay (λk=>k=b1) ff iy:=Kf.new gJ;refine ⟨λy=>ai iy y,ay.refl _ _,dx.bd { r with xY:=(g1 lp t.bD).2.2,Code:=(g1 lp t.bD).2.1.1,Db:=(g1 lp t.bD).2.1.2 } ⟨λy az=>cD (ai.an az kI) rfl,?_⟩⟩;refine gL K6 (by rw [yn];rfl) (dx.single _) λve K9 uN=>?_
  refine dx.bd { r with xY:=(g1 lp t.bD).2.2,Code:=(g1 lp t.bD).2.1.1,Db:=(g1 lp t.bD).2.1.2 } ⟨cD K9 rfl,rfl,?_⟩;have Kg:ay (λk=>k=b1\/k=aP) ff ve:=(BT.mono λk _ e=>.inl e).trans (uN.mono λk _ e=>.inr e) λ_ _ e=>e
  have Ed:ai z ve:=(ja.new mh).trans Kg λk aK e=>by omega
  have Ke:ay (λk=>k=b1\/k=aP) b2 ve:=(ay.db (bz.new bH)).trans Kg λ_ _ e=>e
  refine ⟨Ed,aa,ac,dD,_,rfl,dw.aO Ke (mK dw λk J e=>by have:=fH k J;omega),λk J=>by have:=fH k J;omega,?_,?_⟩
  ·rw [hS];exact eb.aO (Ke.mono λk _ e=>by show k<cS.heap.size;omega) λk _ e=>by show k<cS.heap.size;omega
  ·have bq:=h.aO (A':=A) (ay.db Ed) λ_ _ e=>e
   rw [Pf];exact ⟨bq.kind,bq.bw,rfl,bq.bad,bq.bD,bq.gB,bq.gc,bq.cH,⟨rfl,rfl⟩,bq.len⟩
 |inr AD=>
  have J:r.Kind=4:=by rw [h.kind,GR];rfl
  have TY:Dd A z r.Recover AD:=by have:=h.cH;rw [GR] at this;exact this
  have Pf:t.told={ t with ix:=(jK AD t.bD).2.2,out:=.inr (jK AD t.bD).2.1 }:=by unfold dB.told;rw [GR];rfl
  have hS:conv.next (.inr AD) t.bD=((jK AD t.bD).1,.inr (jK AD t.bD).2.1,(jK AD t.bD).2.2):=rfl;refine ⟨_,gM.cell (i:=0) rfl,eX (by rw [J];rfl) (eX (by rw [J];rfl) (eX (by rw [J];rfl) (g8 (by rw [J];rfl) ?_)))⟩;refine fT.bd r.Recover ⟨cD gM rfl,_,_,_,gM.cell (i:=23) rfl,?_⟩;have pS:ay A z cS:=ay.db ja;have c_:Dd A cS r.Recover AD:=TY.aO (A':=A) pS λ_ _ e=>e
  have a':=h.bD.aO (A':=A) pS λ_ _ e=>e
  refine aR (al3 c_.at_ a' h.gB h.gc) ?_;rintro v b2 ⟨aa,ac,dD,rfl,bf,dw,fH,eb⟩;generalize G1:jK AD t.bD=N at eb Pf hS;obtain ⟨aEM,o,ES⟩:=N;refine ⟨_,_,_,f7.bd o ⟨ES,rfl,?_⟩⟩;refine g0 (vs:=o.cells) rfl (f7.single _) λbT c6 ej dk bz=>?_
  rintro ff sr;have bH:ai c6 ff:=by rw [sr];exact eh _
  clear sr;have j2:=bf.size;have pq:=bz.size;have nQ:=bH.size;have dk:aF c6 bT o.cells Bk:=dk;have Al:=ai.an bH dk;have mh:=(bf.new bz).new bH;have om:=ai.an mh gM;have K5:=ai.an mh bP;refine ⟨λy=>aF y bT o.cells Bk,Al,_,λy az=>az.cell (i:=0) rfl,_,λy az=>az.cell (i:=1) rfl,_,λy az=>az.cell (i:=2) rfl,_,λy az=>az.cell (i:=3) rfl,?_⟩;have off:∀ {u b_:av},ay (λk=>k=b1) u b_->aF u bT o.cells Bk->aF b_ bT o.cells Bk:=λJ ak=>J.an ak (by omega)
  refine sQ om (i:=24) rfl λjP e4 eu=>⟨off eu Al,?_⟩
  refine sQ e4 (i:=26) rfl λmU fQ eD=>⟨off eD (off eu Al),?_⟩
  refine sQ fQ (i:=33) rfl λu8 gN fe=>⟨off fe (off eD (off eu Al)),?_⟩
  refine sQ gN (i:=34) rfl λv1 oj acv=>⟨off acv (off fe (off eD (off eu Al))),?_⟩
  refine sQ oj (i:=35) rfl λv2 oP arT=>?_
  rintro iy tz;have gJ:ai v2 iy:=by rw [tz];exact eh _
  clear tz;have Kf:ay (λk=>k=b1) ff v2:=(((eu.trans eD λ_ _ e=>e).trans fe λ_ _ e=>e).trans acv λ_ _ e=>e).trans arT λ_ _ e=>e
  have oP:aF v2 b1 (dx.cells { r with xY:=ES,Code:=o.Code,rR:=o.rR,Seq:=o.Seq,rO:=o.rO }) lO:=oP;have kI:=ai.an gJ oP;have K6:aF iy aP Jj lO:=ai.an gJ (Kf.an K5 (by omega));have BT:ay (λk=>k=b1) ff iy:=Kf.new gJ;refine ⟨λy=>ai iy y,ay.refl _ _,dx.bd { r with xY:=ES,Code:=o.Code,rR:=o.rR,Seq:=o.Seq,rO:=o.rO } ⟨λy az=>cD (ai.an az kI) rfl,?_⟩⟩;refine gL K6 (by rw [yn];rfl) (dx.single _) λve K9 uN=>?_
  refine dx.bd { r with xY:=ES,Code:=o.Code,rR:=o.rR,Seq:=o.Seq,rO:=o.rO } ⟨cD K9 rfl,rfl,?_⟩;have Kg:ay (λk=>k=b1\/k=aP) ff ve:=(BT.mono λk _ e=>.inl e).trans (uN.mono λk _ e=>.inr e) λ_ _ e=>e
  have Ed:ai z ve:=(ja.new mh).trans Kg λk aK e=>by omega
  have Ke:ay (λk=>k=b1\/k=aP) b2 ve:=(ay.db (bz.new bH)).trans Kg λ_ _ e=>e
  refine ⟨Ed,aa,ac,dD,_,rfl,dw.aO Ke (mK dw λk J e=>by have:=fH k J;omega),λk J=>by have:=fH k J;omega,?_,?_⟩
  ·rw [hS];exact eb.aO (Ke.mono λk _ e=>by show k<cS.heap.size;omega) λk _ e=>by show k<cS.heap.size;omega
  ·have bq:=h.aO (A':=A) (ay.db Ed) λ_ _ e=>e
   rw [Pf];exact ⟨bq.kind,bq.bw,rfl,bq.bad,bq.bD,bq.gB,bq.gc,bq.cH,⟨rfl,rfl,rfl,rfl⟩,bq.len⟩
end mA
namespace mA
def YQ (hV b1 aP:Nat) (z:av) (R:dW):Prop:=
 ∃ (g:ax) (gB gc:Nat),z.cell? ⟨b1,23,none⟩=some (.slice g gB gc)/\(bif (decide ((gB:Int)>200)) then
  ((∃ u,z.cell? ⟨b1,24,none⟩=some u)/\z.frozen? ⟨b1,24,none⟩=false/\∀ e',e'=z.setCell ⟨b1,24,none⟩ (.bool true)->(∃ u,e'.cell? ⟨b1,25,none⟩=some u)/\e'.frozen? ⟨b1,25,none⟩=false/\∀ dq,dq=e'.setCell ⟨b1,25,none⟩ (.bool true)->
   dx.ex λx=>df dq ⟨b1,0,none⟩ 0 x.cells/\ha dq ⟨aP,0,none⟩ 0 x.cells/\∀ w',w'=dO dq ⟨aP,0,none⟩ 0 x.cells->dx.ex λy=>df w' ⟨aP,0,none⟩ 0 y.cells/\w'=w'/\R y.val w')
  else (dx.ex λr=>df z ⟨b1,0,none⟩ 0 r.cells/\Calls prog 65 #[r.val] z λe h5=>∃ (a:ax) (fi ac:Nat),dx.ex λe1=>e=.returned (.tuple #[.slice a fi ac,e1.val])/\ha h5 ⟨b1,0,none⟩ 0 e1.cells/\∀ hh,hh=dO h5 ⟨b1,0,none⟩ 0 e1.cells->
   ∃ ES:Bool,hh.cell? ⟨b1,24,none⟩=some (.bool ES)/\(bif (!ES) then (∃ fE:Int,hh.cell? ⟨b1,1,none⟩=some (.int .i64 fE)/\Calls prog 66 #[.pointer (some ⟨hV,0,none⟩),.int .i64 fE,.slice a fi ac] hh λe gK=>∃ s':Int,e=.returned (.int .i64 s')/\(bif (s' != 0) then
     ((∃ u,gK.cell? ⟨b1,24,none⟩=some u)/\gK.frozen? ⟨b1,24,none⟩=false/\∀ jq,jq=gK.setCell ⟨b1,24,none⟩ (.bool true)->(∃ u,jq.cell? ⟨b1,25,none⟩=some u)/\jq.frozen? ⟨b1,25,none⟩=false/\∀ nw,nw=jq.setCell ⟨b1,25,none⟩ (.bool true)->
      dx.ex λx=>df nw ⟨b1,0,none⟩ 0 x.cells/\ha nw ⟨aP,0,none⟩ 0 x.cells/\∀ w',w'=dO nw ⟨aP,0,none⟩ 0 x.cells->dx.ex λy=>df w' ⟨aP,0,none⟩ 0 y.cells/\w'=w'/\R y.val w')
     else (dx.ex λx=>df gK ⟨b1,0,none⟩ 0 x.cells/\ha gK ⟨aP,0,none⟩ 0 x.cells/\∀ w',w'=dO gK ⟨aP,0,none⟩ 0 x.cells->dx.ex λy=>df w' ⟨aP,0,none⟩ 0 y.cells/\w'=w'/\R y.val w')))
    else (dx.ex λx=>df hh ⟨b1,0,none⟩ 0 x.cells/\ha hh ⟨aP,0,none⟩ 0 x.cells/\∀ w',w'=dO hh ⟨aP,0,none⟩ 0 x.cells->dx.ex λy=>df w' ⟨aP,0,none⟩ 0 y.cells/\w'=w'/\R y.val w'))))
theorem Z8 {A:bB} {aG:Nat->Tag} {w z:av} {a3 b1 aP:Nat} {B:bB} {f0:Nat->Tag} {X:cF} {r:h8} {t:dB conv} (h:jA A aG w a3 (λk=>k=b1\/k=aP) z B f0 X) (cj:b1≠aP) (bA:aF z b1 r.cells lO) {cs:aH} (cv:aF z aP cs lO) (dG:cs.length=36) (aZ:io (λk=>B k\/k=b1\/k=aP) z r t) :
  (∃ u,z.cell? ⟨b1,24,none⟩=some u)/\z.frozen? ⟨b1,24,none⟩=false/\∀ e',e'=z.setCell ⟨b1,24,none⟩ (.bool true)->(∃ u,e'.cell? ⟨b1,25,none⟩=some u)/\e'.frozen? ⟨b1,25,none⟩=false/\∀ dq,dq=e'.setCell ⟨b1,25,none⟩ (.bool true)->
   dx.ex λx=>df dq ⟨b1,0,none⟩ 0 x.cells/\ha dq ⟨aP,0,none⟩ 0 x.cells/\∀ w',w'=dO dq ⟨aP,0,none⟩ 0 x.cells->dx.ex λy=>df w' ⟨aP,0,none⟩ 0 y.cells/\w'=w'/\F6 A aG w a3 (X.pure,t.fail) y.val w':=by
 refine ⟨⟨_,bA.cell rfl⟩,bA.frozen,?_⟩;rintro e' bm;have hk:ay (λk=>k=b1) z e':=by rw [bm];exact iu _ _ _ _
 have yh:=bA.setCell (i:=24) (.bool true);rw [<-bm] at yh;clear bm;refine ⟨⟨_,yh.cell rfl⟩,yh.frozen,?_⟩;rintro dq bP;have eN:ay (λk=>k=b1) z dq:=by rw [bP];exact hk.setCell (.inl rfl) _
 have sd:=yh.setCell (i:=25) (.bool true);rw [<-bP] at sd;clear bP;have sd:aF dq b1 ({ r with xY:=true,zm:=true }:h8).cells lO:=sd;refine FO sd (eN.an cv λe=>cj e.symm) dG λw' dQ=>?_
 exact Nd (h.local eN λ_ e=>.inl e) ((aZ.aO (eN.mono λ_ _ e=>.inr (.inl e)) λ_ _ ak=>ak).fail) dQ
theorem Z9 {A:bB} {aG:Nat->Tag} {w z:av} {a3 b1 aP:Nat} {B:bB} {f0:Nat->Tag} {X:cF} {r:h8} {t:dB conv} (h:jA A aG w a3 (λk=>k=b1\/k=aP) z B f0 X) (b3:Good X.pure) (cj:b1≠aP)
  (bA:aF z b1 r.cells lO) {cs:aH} (cv:aF z aP cs lO) (dG:cs.length=36) (aZ:io (λk=>B k\/k=b1\/k=aP) z r t) :
  YQ a3 b1 aP z (F6 A aG w a3 (sS X.pure t)):=by
 unfold YQ sS;have jm:=aZ.gB;refine ⟨_,_,_,bA.cell rfl,bL (λab=>?_) (λab=>?_)⟩
 ·rw [if_pos (by omega)];exact Z8 h cj bA cv dG aZ
 ·rw [if_neg (by omega)];refine dx.bd r ⟨cD bA rfl,?_⟩;refine aR (anj aZ (λk J=>h.dt.low k J)) ?_;rintro v e' ⟨a1,aa,ac,dD,e1,rfl,dw,fH,eb,lz⟩;refine ⟨_,_,_,dx.bd e1 ⟨rfl,?_⟩⟩;have BG:=bA.lt;have abO:=cv.lt;refine gL (vs:=e1.cells) (ai.an a1 bA) rfl (dx.single e1) λdq Oo eN=>?_
  have arU:ay (λk=>k=b1) z dq:=(ay.db a1).trans eN λ_ _ e=>e
  have al:=(h.new a1).local eN λ_ e=>.inl e
  have B8:=lz.aO (A':=λk=>B k\/k=b1\/k=aP) (eN.mono λ_ _ e=>.inr (.inl e)) λ_ _ ak=>ak
  have abP:aF dq aP cs lO:=arU.an cv λe=>cj e.symm
  have Ad:bW dq aa (gG dD).flatten:=dw.aO eN (mK dw λk J e=>by have:=fH k J;omega);refine ⟨_,Oo.cell rfl,ht (λaq=>?_) (λaq=>?_)⟩
  ·have nO:(conv.next t.cH t.bD).2.2=false:=by rw [<-aq];exact lz.ix.symm
   rw [if_neg (by rw [nO];simp)];refine ⟨_,Oo.cell rfl,?_⟩;have pU:((gG dD).flatten=[])\/kR (λk=>B k\/k=b1\/k=aP) aa:=mK Ad λk J e=>by have aL:=fH k J;have ca:=h.dt.low k e;omega
   have Es:hp (λk=>B k\/k=b1\/k=aP) dq dD (conv.next t.cH t.bD).1:=eb.aO (eN.mono λk _ e=>by show k<z.heap.size;omega) λk _ ak=>h.dt.low k ak
   have c7:e1.Client=t.bw:=lz.bw;rw [c7];refine aR (amL al.dt b3.ok t.bw (lcap:=ac) Ad pU Es) ?_;rintro v h5 ⟨rfl,ar⟩;obtain ⟨B',lj,eR,aL,pf,_,ek,BA,r7⟩:=al.op ar;have yi:aF h5 b1 e1.cells lO:=(r7 b1 (.inl rfl)).trans Oo;have JK:aF h5 aP cs lO:=(r7 aP (.inr rfl)).trans abP;have qy:=B8.aO (A':=λk=>B' k\/k=b1\/k=aP) ek BA;refine ⟨_,rfl,fX (λgC=>?_) (λgC=>?_)⟩
   ·rw [if_pos gC,<-pf];exact Z8 aL cj yi JK dG qy
   ·rw [if_neg (λe=>e gC)];refine FO yi JK dG λw' dQ=>?_
    rw [<-pf];exact Nd aL qy dQ
  ·have nO:(conv.next t.cH t.bD).2.2=true:=by rw [<-aq];exact lz.ix.symm
   rw [if_pos nO];refine FO Oo abP dG λw' dQ=>?_
   exact Nd al B8 dQ
theorem Z_ {A:bB} {aG:Nat->Tag} {w:av} {a3:Nat} {X:cF} (h:c4 A aG w a3 X) (b3:Good X.pure) {r:h8} {t:dB conv} (aZ:io A w r t) (KO:xH t) :
  bK 34 [ptr a3,r.val] w (F6 A aG w a3 (eW X.pure t)):=by
 refine bO Tryz.func34 ?_;rw [ptr,azc];rintro b1 w1 bA br aP aS cv cG;obtain ⟨bm,a1⟩:=b4 bA br;obtain ⟨bP,a5⟩:=b4 cv cG;have gM:aF aS b1 r.cells lO:=ai.an a5 bm;have fI:=bm.lt;have UQ:=a1.size;have jc:=bP.lt;have aEk:=a5.size;clear br cG bm;have gI:=a1.new a5;have cj:b1≠aP:=by omega
 have bq:jA A aG w a3 (λk=>k=b1\/k=aP) aS A aG X:=jA.start h gI λk J=>by omega
 have B8:io (λk=>A k\/k=b1\/k=aP) aS r t:=aZ.aO (ay.db gI) λk aK ab=>by
  rcases ab with ab | ab
  ·exact ab
  ·omega
 have Ep:∀ w',ay (λk=>k=aP) aS w'->F6 A aG w a3 (X.pure,t) r.val w':=λw' dQ=>Nd bq B8 dQ
 unfold eW;have c7:r.Client=t.bw:=aZ.bw;refine ⟨_,gM.cell rfl,?_⟩;rw [aZ.ix];cases G4:t.ix with
 |true=>refine g8 rfl ?_;rw [if_pos (.inl rfl)];exact FO gM bP rfl Ep
 |false=>
  refine eX rfl ?_;refine ⟨_,gM.cell rfl,?_⟩;rw [c7];refine aR (Zf bq.dt _) ?_;rintro v bZ ⟨rfl,rfl⟩;refine ⟨_,rfl,ht (λbc=>?_) (λbc=>?_)⟩
  ·rw [if_pos (.inr (.inl bc))];exact FO gM bP rfl Ep
  refine ⟨_,gM.cell rfl,?_⟩;rw [c7];refine aR (ajc bq.dt _) ?_;rintro v dh ⟨rfl,rfl⟩;refine ⟨_,rfl,bL (λhw=>?_) (λhw=>?_)⟩
  ·rw [if_pos (.inr (.inr (by omega)))];exact FO gM bP rfl Ep
  rw [if_neg (by rw [bc];simp;omega)];refine ⟨_,gM.cell rfl,?_⟩;rw [c7];refine aR (amJ bq.dt _) ?_;rintro v e6 ar;obtain ⟨B',lj,eR,aL,pf,vQ,ek,BA,r7⟩:=bq.op ar;have yi:aF e6 b1 r.cells lO:=(r7 b1 (.inl rfl)).trans gM;have JK:=(r7 aP (.inr rfl)).trans bP;have qy:=B8.aO (A':=λk=>B' k\/k=b1\/k=aP) ek BA;have acW:Good eR.pure:=by rw [pf];exact b3.take _
  have lY:∀ ds,(X.pure.take t.bw).1=some ds->ds.length<=1024:=λds=>aj9 b3
  have hlen:=KO G4;rw [<-pf];generalize (X.pure.take t.bw).1=sC at vQ lY ⊢;cases sC with
  |none=>have vQ:v=.tuple #[.slice none 0 0,.bool false]:=vQ;subst vQ;refine ⟨_,_,_,_,rfl,eX rfl ?_⟩;exact Z9 aL acW cj yi JK rfl qy
  |some ds=>
   obtain ⟨b,raw,rfl,hI,dX,uS⟩:=vQ;refine ⟨_,_,_,_,rfl,g8 rfl ?_⟩;refine ⟨_,_,_,yi.cell rfl,?_⟩;rw [qy.gB];refine aj_ qy.bD (by omega) hI dX uS (lY ds rfl) aL.dt.low (by rw [dX.1]) ?_;intro bT ap cap z ej ary vV da;have Te:=ai.an da yi;refine ⟨⟨_,Te.cell rfl⟩,Te.frozen,?_⟩;rintro mx tA;have pS:ay (λk=>k=b1) z mx:=by rw [tA];exact iu _ _ _ _
   have On:=Te.setCell (i:=23) (.slice ap (t.bD.length+1) cap);rw [<-tA] at On;clear tA;have On:aF mx b1 ({ r with IK:=ap,F_:=t.bD.length+1,RS:=cap }:h8).cells lO:=On;refine Z9 ((aL.new da).local pS λ_ e=>.inl e) acW cj On (pS.an (ai.an da JK) λe=>cj e.symm) rfl ?_;have m7:ay (λk=>B' k\/k=b1\/k=aP) e6 mx:=(ay.db da).trans pS λ_ _ e=>.inr (.inl e)
   have G8:=qy.aO (A':=λk=>B' k\/k=b1\/k=aP) m7 λ_ _ ak=>ak
   have jm:(t.bD++[ds]).length=t.bD.length+1:=by simp
   exact ⟨G8.kind,G8.bw,G8.ix,G8.bad,ary.aO (pS.mono λ_ _ e=>.inr (.inl e)) λ_ _ ak=>ak,jm.symm,vV,G8.cH,G8.out,by show (t.bD++[ds]).length<=201;omega⟩
end mA
end Go.Proofs.YtmkljjbioomepaaGreat
