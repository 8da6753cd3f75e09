import Derived.Test.YtmkljjbioomepaaGreata27
import Derived.Test.YtmkljjbioomepaaGreata20
set_option linter.all false
set_option maxHeartbeats 4000000
set_option maxRecDepth 100000
namespace Go.Proofs.YtmkljjbioomepaaGreat
open Go.Proofs.Tryz Go.b8
variable {A:bB} {B dc te i n pc lE a2 tb:Nat} {L:List (bn×fq)} {oB:Exit->aH->aV} {R:dW} {V:kv} {f8 pN pa pb:ax} {ds:List a_} {j:c8} {m:bp} {o:Int×Int} {r:fT} {raw:List cL} {u ct w0 z:av}
section
abbrev pG:TypeId:=309
def y3 (l:List fq):List aH:=l.map fq.cells
def eB (j:c8):List fq:=
 ⟨j.dead,j.gP,true⟩::(if wV j.prev=true/\pp j.prev≠j.dead then [⟨pp j.prev,sH j.prev+1,false⟩] else [])
theorem XD (h:Sf j):∀ f ∈ eB j,0<=f.bw/\f.bw<6/\0<=f.least/\f.least<=60:=by
 intro f aJ;have af:=h.dead;have al:=h.gP;unfold eB at aJ;rcases iF.1 aJ with rfl | aJ
 ·exact ⟨af.1,af.2,by show 0<=j.gP;omega,al.2⟩
 split at aJ
 ·rename_i ak;have ak:=of_decide_eq_true (show wV j.prev=true from ak.1);obtain ⟨bs,bI⟩:=LB ak;obtain ⟨bY,bg,_⟩:=Ww ak;simp at aJ;subst aJ;refine ⟨?_,?_,?_,?_⟩
  ·show 0<=pp j.prev;omega
  ·show pp j.prev<6;omega
  ·show 0<=sH j.prev+1;omega
  ·show sH j.prev+1<=60;omega
 ·cases aJ
section
variable {A:bB} {w0 u:av} {a2 tb:Nat} {r:fT} {m:bp} {j:c8} {V:kv} {T:kb} {G:List (List a_)}
theorem akl (ab:fy w0 u a2 tb r m j V o):bK 219 [ptr a2] u λv b_=>∃ a cap,v=.slice a (eB j).length cap/\ai u b_/\bW b_ a (y3 (eB j)).flatten/\∀ k,a7 a k->u.heap.size<=k:=by
 refine bO Tryz.func219 ?_;rw [ptr,avX];rintro w1 br;have a1:ai u w1:=by rw [br];exact eh _
 clear br;have eC:=ab.ck a1;have aC:=ab.cH.dead;have JX:=ab.cH.gP;have asQ:=ab.cH.prev;have hz:=ab.du.gP;refine ⟨λy=>ai w1 y,ay.refl _ _,r.iq,λy az=>(ai.an az eC.an).cell (i:=5) rfl,r.j',λy az=>(ai.an az eC.an).cell (i:=6) rfl,?_⟩;dsimp only;rw [aC,JX,rJ (x:=j.gP) (by omega) (by omega)];rintro b1 aS bA cG;obtain ⟨bP,a5⟩:=b4 bA cG;have bP:aF aS b1 (fq.cells ⟨j.dead,j.gP,true⟩) pG:=bP;clear cG;have gC:=eC.ck a5;refine ⟨a5,r.mV,gC.an.cell (i:=7) rfl,?_⟩;rw [asQ];refine aR (agu aS ab.du.prev) ?_;rintro v aY ⟨rfl,rfl⟩;have a3:∀ k,a7 (some ⟨b1,0,none⟩) k->u.heap.size<=k:=λk J=>by obtain ⟨gk,nO⟩:=J;simp at nO;have:=a1.size;omega
 have one:∀ F,eB j=F->F=[⟨j.dead,j.gP,true⟩]->∃ a cap,Value.slice (some ⟨b1,0,none⟩) 1 1=.slice a (eB j).length cap/\ai u aY/\bW aY a (y3 (eB j)).flatten/\∀ k,a7 a k->u.heap.size<=k:=by intro F af al;rw [af,al];exact ⟨_,_,rfl,a1.new a5,jk bP rfl,a3⟩
 refine ⟨_,_,_,rfl,kk (λak=>⟨r.iq,gC.an.cell (i:=5) rfl,fX (λcj=>?_) (λhe=>?_)⟩) (λak=>?_)⟩
 ·have cj:pp j.prev≠j.dead:=by rw [<-aC];exact cj
  have cM:eB j=[⟨j.dead,j.gP,true⟩]++[⟨pp j.prev,sH j.prev+1,false⟩]:=by unfold eB;rw [if_pos ⟨ak,cj⟩];rfl
  have pg:=of_decide_eq_true (show wV j.prev=true from ak);obtain ⟨bs,bI⟩:=LB pg;obtain ⟨bY,bg,_⟩:=Ww pg;rw [cn (x:=sH j.prev+1) (by omega) (by omega),rJ (x:=sH j.prev+1) (by omega) (by omega)];rintro aP bZ cv eE;obtain ⟨dk,bz⟩:=b4 cv eE;have dk:aF bZ aP (fq.cells ⟨pp j.prev,sH j.prev+1,false⟩) pG:=dk;clear eE;obtain ⟨inf,aD,aE,j3,gm⟩:=j5 (T:=pG) (z:=fq.val ⟨0,0,false⟩) (n:=3) (m:=24) (by kernel_rfl);have aq:bu bZ pG 3 (some ⟨b1,0,none⟩) 1 1 ([(⟨j.dead,j.gP,true⟩:fq)].map fq.cells).flatten:=⟨rfl,.inr ⟨b1,_,rfl,ai.an bz bP,eJ 1,by decide,rfl,rfl⟩⟩;refine Fp (cells:=fq.cells) (sz:=3) fq.len fq.single Tryz.underlying306 aD aE (by rw [j3];rfl) j3 (by decide) (by rw [gm];decide) aq (l2:=[⟨pp j.prev,sH j.prev+1,false⟩]) (m:=1) (jk dk rfl) rfl (by decide) λap bU cK af al aL=>?_
  rw [cM];refine ⟨ap,bU,rfl,?_,af.rd,λk J=>by
   rcases aL k J with e | e
   ·exact a3 k e
   ·have:=((a1.new a5).new bz).size;omega⟩
  refine ((a1.new a5).new bz).trans al λk J e=>?_
  obtain ⟨gk,nO⟩:=e;simp at nO;have:=a1.size;omega
 ·exact one _ rfl (by unfold eB;rw [if_neg (λe=>e.2 (by rw [<-aC];exact he))])
 ·exact one _ rfl (by unfold eB;rw [if_neg (λe=>by rw [ak] at e;simp at e)])
def vm (j:c8) (bV:bp) (f:fq):bn:=wW j bV (24+f.bw) 1
def mM (j:c8):List bn:=(j.v.mem.map λbV=>(eB j).map (vm j bV)).flatten
theorem ajF (ab:fy w0 u a2 tb r m j V o) (aJ:bW u pN (y3 (eB j)).flatten) (aT:aH)
  (J:∀ b_ pa n pc aT,ai u b_->cy u b_ pa n pc (mM j)->Go.b8.W prog (sub (b6 f179) [1,1,1,1]) (SO ⟨a2,0,none⟩ pN (eB j).length te pa n pc aT) (ga prog f179 R) b_) :
  dT prog (.loop (sub (b6 f179) [1,1,1,0,1,0,0])) (Je ⟨a2,0,none⟩ pN (eB j).length te none 0 0 r.View.h1 r.View.h6 r.View.iJ r.View.h6 0 aT)
   (a8 0 (bk (λenv w=>Go.b8.W prog (sub (b6 f179) [1,1,1,1]) env (ga prog f179 R) w) (ga prog f179 R))) u:=by
 obtain ⟨zw,kX⟩:=ab.cH.view;have hlen:=kX.len;have sh:=ab.du.mem;have JZ:(eB j).length<=2:=by unfold eB;split<;>simp
 have ard:=XD ab.du;have tv:=ab.an.lt;refine e2 mix (λq env z=>∃ (i:Nat) (pa:ax) (n pc:Nat) (aT:aH),q=j.v.mem.length - i/\i<=j.v.mem.length/\env=Je ⟨a2,0,none⟩ pN (eB j).length te pa n pc r.View.h1 r.View.h6 r.View.iJ r.View.h6 i aT/\ai u z/\n<=2 * i/\
   cy u z pa n pc ((j.v.mem.take i).map λbV=>(eB j).map (vm j bV)).flatten) j.v.mem.length
  ⟨0,none,0,0,_,by omega,by omega,rfl,ay.refl _ _,by omega,cy.nil _ _⟩ ?_
 rintro q env z ⟨i,pa,n,pc,aT,rfl,aD,rfl,da,a5,d'⟩;refine mb (fn:=f179) (R:=R) (λ_ _=>rfl) ?_;rw [auS,hlen];have og:=ab.new.new da;refine bL (λaK=>?_) (λhQ=>?_)
 ·obtain ⟨bV,hm⟩:∃ bV,j.v.mem[i]?=some bV:=⟨_,cp (by omega)⟩;have tp:=ab.du.hd bV (dn hm);refine hq (cells:=bp.cells) bp.len (by omega) (kX.rd.new og) hm rfl rfl λb gk gD _=>bp.bd bV ⟨gD,?_⟩
  refine g0 (vs:=bV.cells) rfl (bp.single _) λbT e' ej cx bf=>?_
  refine e2 mix (λq env y=>∃ (k:Nat) (pa:ax) (n pc:Nat) (aT:aH),q=(eB j).length - k/\k<=(eB j).length/\env=NL ⟨a2,0,none⟩ pN (eB j).length te pa n pc ⟨bT,0,none⟩ r.View.h1 j.v.mem.length r.View.iJ j.v.mem.length i pN (eB j).length te (eB j).length k aT/\ai u y/\aF y bT bV.cells hN/\n<=2 * i+k/\
    cy u y pa n pc (((j.v.mem.take i).map λbV=>(eB j).map (vm j bV)).flatten++((eB j).take k).map (vm j bV))) (eB j).length
   ⟨0,pa,n,pc,_,by omega,by omega,rfl,da.new bf,cx,by omega,by simpa using d'.new bf⟩ ?_
  rintro q env y ⟨k,pa,n,pc,aT,rfl,dQ,rfl,OX,at3,aD7,Et⟩;refine mb (fn:=f179) (R:=R) (λ_ _=>rfl) ?_;rw [auT];refine bL (λOQ=>?_) (λaru=>?_)
  ·obtain ⟨f,TM⟩:∃ f,(eB j)[k]?=some f:=⟨_,cp (by omega)⟩;have GN:=ard f (dn TM);refine hq (cells:=fq.cells) fq.len (by omega) (aJ.new OX) TM rfl rfl λec tK aqH _=>fq.bd f ⟨aqH,?_⟩
   refine g0 (vs:=f.cells) rfl (fq.single _) λjB qQ ih dL bH=>?_
   rintro AZ adO;have cg:ai qQ AZ:=by rw [adO];exact eh _
   clear adO;have Us:=bH.new cg;have He:=ai.an Us at3;have Hf:=ai.an cg dL;refine ⟨λx=>aF x bT bV.cells hN/\aF x jB f.cells pG,⟨He,Hf⟩,bp.bd bV ⟨λx ao=>cD ao.1 rfl,f.bw,λx ao=>ao.2.cell (i:=0) rfl,?_⟩⟩;refine aR (Rp AZ ⟨GN.1,GN.2.1⟩) ?_;rintro v n4 ⟨rfl,dg⟩;refine ⟨_,rfl,⟨ai.an dg He,ai.an dg Hf⟩,?_⟩;refine aR (LF (ab.ck ((OX.new Us).new dg)) (m:=bV) (by unfold gF;omega) (24+f.bw) 1) ?_;rintro v ub ⟨bX,rfl,d_,eT⟩;have jG:=dg.new eT;refine a0.bd bX ⟨rfl,⟨ai.an jG He,ai.an jG Hf⟩,?_⟩;rintro fJ QQ me eO;have gJ:ai ub QQ:=by rw [eO];exact mE _ _
   have tr:=(Us.new dg);refine ⟨⟨ai.an (jG.new gJ) He,ai.an (jG.new gJ) Hf⟩,cy.u9 (Et.new tr) (OX.new tr) eT d_ (by omega) me eO λap bU QR hj fe asd=>?_⟩;obtain ⟨dD,cV,_⟩:=Et.ex;have off:∀ {b:Nat} {cs:aH} {T:TypeId},T≠d8->aF ub b cs T->¬ a7 pa b:=λbq ak J=>by obtain ⟨mY,dG⟩:=jX (bu.new ((tr.new eT)) cV) J;exact dG.ne ak (λe=>bq e.symm) rfl
   have adQ:=fe.an (ai.an jG He) (off (by decide) (ai.an jG He));have at6:=fe.an (ai.an jG Hf) (off (by decide) (ai.an jG Hf));refine ⟨⟨adQ,at6⟩,ia ?_⟩;rw [cn (x:=(k:Int)+1) (by omega) (by omega)];refine ⟨(eB j).length - (k+1),by omega,k+1,ap,n+1,bU,_,rfl,by omega,rfl,asd,adQ,by omega,?_⟩;have e:((j.v.mem.take i).map λbV=>(eB j).map (vm j bV)).flatten++((eB j).take k).map (vm j bV)++[vm j bV f]=((j.v.mem.take i).map λbV=>(eB j).map (vm j bV)).flatten++((eB j).take (k+1)).map (vm j bV):=by rw [iW,TM];simp
   rw [<-e];exact hj
  ·have nL:k=(eB j).length:=by omega
   subst nL;refine CP (Cq (Cp (ia ?_)));rw [au6,cn (x:=(i:Int)+1) (by omega) (by omega)];refine ia (Q:=a8 0 (bk (λenv w=>Go.b8.W prog (sub (b6 f179) [1,1,1,1]) env (ga prog f179 R) w) (ga prog f179 R))) ⟨j.v.mem.length - (i+1),by omega,i+1,pa,n,pc,_,rfl,by omega,by rw [<-hlen];rfl,OX,by omega,?_⟩;rw [nx] at Et;have e:((j.v.mem.take i).map λbV=>(eB j).map (vm j bV)).flatten++(eB j).map (vm j bV)=((j.v.mem.take (i+1)).map λbV=>(eB j).map (vm j bV)).flatten:=by rw [iW,hm];simp
   rw [<-e];exact Et
 ·have g2:i=j.v.mem.length:=by omega
  subst g2;refine CP (Cq (ia ?_));rw [nx] at d';exact J z pa n pc _ da d'
end
end
section
def Cn:fq:=⟨0,0,false⟩
def fY (ds:List a_) (i:Nat):Int:=gZ (ds.getD i ⟨0,[]⟩)
def kC (j:c8) (i:Nat):fq:=(eB j).getD (i % (eB j).length) Cn
def yM (j:c8) (i:Nat):bp:=j.v.mem.getD (i / (eB j).length) qD
def qb (j:c8) (ds:List a_) (i:Nat):Bool:=(kC j i).exact && decide (fY ds i>(kC j i).least)
def Iy (j:c8) (ds:List a_) (i:Nat):bn:=F8 j (yM j i) (24+(kC j i).bw) (fY ds i) (kC j i).least
def H2 (j:c8) (ds:List a_) (i:Nat):List (bn×fq):=if fY ds i<(kC j i).least then [(Iy j ds i,kC j i)] else []
def nT (j:c8) (ds:List a_) (n:Nat):List (bn×fq):=((List.range n).map (H2 j ds)).flatten
theorem V0 (j:c8) (ds:List a_) (n:Nat):nT j ds (n+1)=nT j ds n++H2 j ds n:=by unfold nT;rw [rK];simp
theorem Wq (j:c8):0<(eB j).length/\(eB j).length<=2:=by unfold eB;split<;>simp
noncomputable abbrev lU:Func:=f179
structure zp (w0 u z:av) (a2 tb:Nat) (r:fT) (m:bp) (j:c8) (V:kv) (pa:ax) (n pc:Nat) (pb:ax) (lE:Nat) (L:List (bn×fq)):Prop where
 hK:fy w0 z a2 tb r m j V (0,0)
 new:ai u z
 rF:cy u z pa n pc (L.map Prod.fst)
 Gy:bu z pG 3 pb n lE (y3 (L.map Prod.snd)).flatten
 kD:∀ k,a7 pb k->u.heap.size<=k
 le:w0.heap.size<=u.heap.size
theorem zp.oU {cZ:av} (h:zp w0 u z a2 tb r m j V pa n pc pb lE L) (aj:ai z cZ):zp w0 u cZ a2 tb r m j V pa n pc pb lE L:=
 ⟨h.hK.ck aj,h.new.new aj,h.rF.new aj,bu.new aj h.Gy,h.kD,h.le⟩
theorem ajG:∀ x ∈ (nT j ds n).map Prod.fst,x.words=[]:=by
 intro x ao;obtain ⟨p,ar,rfl⟩:=eQ.1 ao;unfold nT at ar;obtain ⟨l,au,ar⟩:=A4.1 ar;obtain ⟨i,_,rfl⟩:=eQ.1 au;unfold H2 at ar;split at ar
 ·simp at ar;rw [ar];rfl
 ·cases ar
theorem ajH (h:zp w0 u z a2 tb r m j V pa n pc pb lE (nT j ds i)) (aD:i<j.v.mem.length * (eB j).length) (aj:n<=i)
  {aP:Nat} (cv:aF z aP (kC j i).cells pG) (aDA:u.heap.size<=aP/\¬ a7 pb aP) (aq8:dp (fY ds i)) {flag:Bool} (vX:flag=qb j ds i) {dl:Nat} {aT:aH} {Q:Exit->aH->aV} (gi:∀ env w,Q .ret env w=ga prog lU R .ret env w)
  (ob:qb j ds i=true->∀ cZ,ay (λk=>k=a2) z cZ->fy w0 cZ a2 tb r m j V (11,0)->R (.bool false) cZ)
  (J:qb j ds i=false->∀ cZ p1 n' wK Hs Ht aT,zp w0 u cZ a2 tb r m j V p1 n' wK Hs Ht (nT j ds (i+1))->n'<=i+1->Q .normal (NN ⟨a2,0,none⟩ pN (eB j).length te p1 n' wK Hs n' Ht f8 dl dc dl i aT) cZ) :
  Go.b8.W prog (sub (b6 lU) [1,1,1,1,1,1,1,1,0,1,0,0,1,1,0,0,1,1,0,1]) (Dx ⟨a2,0,none⟩ pN (eB j).length te pa n pc pb n lE i ⟨aP,0,none⟩ (fY ds i) f8 dl dc dl i flag aT) Q z:=by
 refine mb (fn:=lU) (R:=R) gi ?_;rw [au7];have ju:=h.hK;obtain ⟨uK,z2⟩:=Wq j;have sh:=ju.du.mem;have q_:(kC j i) ∈ eB j:=by unfold kC;have aK:i % (eB j).length<(eB j).length:=Nat.mod_lt _ uK;rw [gd,cp aK];exact qS aK
 have GN:=XD ju.du _ q_;cases flag with
 |true=>refine g8 rfl ?_;refine aR (nv ju 11) ?_;rintro v e' ⟨rfl,hk,tw⟩;exact ⟨_,rfl,ob vX.symm e' hk tw⟩
 |false=>
  refine eX rfl ⟨_,cv.cell (i:=1) rfl,bL (λaK=>?_) (λhQ=>?_)⟩
  ·rintro dq bP;have a5:ai z dq:=by rw [bP];exact eh _
   clear bP;have al:=h.oU a5;obtain ⟨zw,kX⟩:=ju.cH.view;have hlen:=kX.len;have acF:i / (eB j).length<j.v.mem.length:=(Nat.div_lt_iff_lt_mul uK).2 aD;have hm:j.v.mem[i / (eB j).length]?=some (yM j i):=by unfold yM;rw [gd,cp acF];rfl
   have tp:=ju.du.hd _ (dn hm);have hdiv:Int.tdiv (i:Int) ((eB j).length:Int)=((i / (eB j).length:Nat):Int):=rfl;generalize i / (eB j).length=q at acF hm hdiv;have TW:i<=10:=by have:j.v.mem.length * (eB j).length<=5 * 2:=CW sh.2 z2;omega
   refine ⟨λy=>∃ V o,fy w0 y a2 tb r m j V o,⟨_,_,al.hK⟩,r.View.h1,r.View.h6,r.View.iJ,λy az=>by obtain ⟨iK,gk,az⟩:=az;exact az.an.cell (i:=4) rfl,rfl,by omega,?_⟩;rw [hdiv];refine pw (cells:=bp.cells) bp.len (by omega) kX.rd hm (cn (by omega) (by omega)) hlen λb o ab=>bp.bd (yM j i) ⟨λy az=>by obtain ⟨iK,gk,az⟩:=az;exact td (i:=0) λq v aw=>by simpa using ab y az.new q v aw,?_⟩
   rintro b1 h5 bA dY;obtain ⟨cx,bf⟩:=b4 bA dY;have cx:aF h5 b1 (bp.cells ⟨0,0,false⟩) hN:=cx;clear dY;refine ⟨⟨_,_,(al.oU bf).hK⟩,gL (vs:=(yM j i).cells) cx rfl (bp.single _) λhh dk dv=>?_⟩;have jG:ai dq hh:=bf.trans dv λk aK e=>by omega
   rintro gK eO;have bH:ai hh gK:=by rw [eO];exact eh _
   clear eO;have mh:=jG.new bH;have dL:=ai.an bH dk;have Oq:=ai.an (a5.new mh) cv;refine ⟨λx=>aF x b1 (yM j i).cells hN/\aF x aP (kC j i).cells pG,⟨dL,Oq⟩,bp.bd (yM j i) ⟨λx ao=>cD ao.1 rfl,(kC j i).bw,λx ao=>ao.2.cell (i:=0) rfl,(kC j i).least,λx ao=>ao.2.cell (i:=1) rfl,?_⟩⟩;refine aR (Rp gK ⟨GN.1,GN.2.1⟩) ?_;rintro v jq ⟨rfl,cg⟩;refine ⟨_,rfl,⟨ai.an cg dL,ai.an cg Oq⟩,?_⟩;have acK:=mh.new cg;refine aR (MK (al.oU acK).hK (m:=yM j i) (by unfold gF;omega) (24+(kC j i).bw) aq8 ⟨GN.2.2.1,by omega⟩) ?_;rintro v nw ⟨bX,rfl,d_,dg⟩;have Ec:=cg.new dg;refine a0.bd bX ⟨rfl,⟨ai.an Ec dL,ai.an Ec Oq⟩,?_⟩;rintro fJ o0 me jn;have eT:ai nw o0:=by rw [jn];exact mE _ _
   have e8:=al.oU acK;have i':=e8.oU dg;have fQ:=ai.an Ec dL;have Tg:=ai.an Ec Oq;refine ⟨⟨ai.an eT fQ,ai.an eT Tg⟩,cy.u9 e8.rF e8.new dg d_ (by omega) me jn λap bU y9 h4 fK gJ=>?_⟩;obtain ⟨dD,cV,_⟩:=i'.rF.ex;have off:∀ {b:Nat} {cs:aH} {T:TypeId},T≠d8->aF nw b cs T->¬ a7 pa b:=λbq ak J=>by obtain ⟨mY,dG⟩:=jX cV J;exact dG.ne ak (λe=>bq e.symm) rfl
   have kI:=fK.an fQ (off (by decide) fQ);have abN:=fK.an Tg (off (by decide) Tg);have as_:fy w0 y9 a2 tb r m j V (0,0):=i'.hK.aO fK λk fo=>by have:=i'.rF.kD k fo;have:=ju.new.size;have hu:=h.new.size;have:=h.le;exact ⟨by omega,λe=>off (by decide) i'.hK.an (e▸fo)⟩
   have acb:bu y9 pG 3 pb n lE (y3 ((nT j ds i).map Prod.snd)).flatten:=i'.Gy.aO fK λk fo e=>by obtain ⟨cs,dG⟩:=jX i'.Gy fo;exact off (by decide) dG e
   refine ⟨⟨kI,abN⟩,fq.bd (kC j i) ⟨cD abN rfl,?_⟩⟩;rintro kz WI jt yH;obtain ⟨tC,lW⟩:=b4 jt yH;have tC:aF WI kz (kC j i).cells pG:=tC;clear yH;obtain ⟨inf,pR,ml,j3,gm⟩:=j5 (T:=pG) (z:=fq.val ⟨0,0,false⟩) (n:=3) (m:=24) (by kernel_rfl);refine Fp (cells:=fq.cells) (sz:=3) fq.len fq.single Tryz.underlying306 pR ml (by rw [j3];rfl) j3 (by decide) (by rw [gm];decide) (bu.new lW acb) (l2:=[kC j i]) (m:=1) (jk tC rfl) rfl (by omega) λDr mF L7 bs bI dd=>?_
   have v':nT j ds (i+1)=nT j ds i++[(Iy j ds i,kC j i)]:=by rw [V0,show H2 j ds i=[(Iy j ds i,kC j i)] from if_pos aK]
   have UF:∀ {b:Nat} {cs:aH} {T:TypeId},T≠pG->aF WI b cs T->¬ a7 pb b:=λbq ak fo=>by obtain ⟨mY,dG⟩:=jX (bu.new lW acb) fo;exact dG.ne ak (λe=>bq e.symm) rfl
   have adf:=as_.ck lW;have hle:=h.le;have Um:=h.new.size;have Pb:=gJ.size;refine J vX.symm L7 ap (n+1) bU Dr mF _ ⟨adf.aO bI λk fo=>⟨by have:=h.kD k fo;omega,λe=>UF (by decide) adf.an (e▸fo)⟩,(gJ.new lW).trans bI λk hR e=>by have:=h.kD k e;omega,?_,?_,λk fo=>?_,hle⟩ (by omega)
   ·rw [v',pB];have zP:cy u WI ap (n+1) bU ((nT j ds i).map Prod.fst++[Iy j ds i]):=h4.new lW;obtain ⟨aEW,O5,_⟩:=zP.ex;refine zP.Vn (λx ao=>?_) bI λk fo e=>?_
    ·rcases qT.1 ao with ao | ao
     ·exact ajG x ao
     ·simp at ao;rw [ao];rfl
    ·obtain ⟨mY,dG⟩:=jX O5 fo;exact UF (by decide) dG e
   ·rw [v',pB];exact bs
   ·rcases dd k fo with e | e
    ·exact h.kD k e
    ·have:=gJ.size;have:=lW.size;omega
  ·refine J vX.symm z pa n pc pb lE _ ?_ (by omega);rw [V0,show H2 j ds i=[] from if_neg hQ,qd];exact h
end
section
theorem aiJ (j0:ds.length=j.v.mem.length * (eB j).length)
  (aJ:bW u pN (y3 (eB j)).flatten) (dw:bW w0 f8 (j6 raw).flatten) (dX:lN A w0 raw ds) (aD:i<=ds.length) (gn:zp w0 u z a2 tb r m j V pa n pc pb lE (nT j ds i)) (Ky:n<=i) (aT:aH)
  (JC:∀ env w,oB .ret env w=ga prog lU R .ret env w)
  (ob:i<ds.length->qb j ds i=true->∀ e' cZ,ai z e'->ay (λk=>k=a2) e' cZ->fy w0 cZ a2 tb r m j V (11,0)->R (.bool false) cZ)
  (Kx:i<ds.length->qb j ds i=false->∀ cZ pa n pc pb lE aT,zp w0 u cZ a2 tb r m j V pa n pc pb lE (nT j ds (i+1))->n<=i+1->oB .normal (Dw ⟨a2,0,none⟩ pN (eB j).length te pa n pc pb n lE f8 ds.length dc ds.length (i+1:Nat) aT) cZ)
  (sf:i=ds.length->∀ aT,oB (.exit 4) (NM ⟨a2,0,none⟩ pa n pc pb n lE aT) z) :
  Go.b8.W prog (sub (b6 lU) [1,1,1,1,1,1,1,1,0,1,0,0]) (Dw ⟨a2,0,none⟩ pN (eB j).length te pa n pc pb n lE f8 ds.length dc ds.length i aT) oB z:=by
 have ju:=gn.hK;obtain ⟨uK,z2⟩:=Wq j;have sh:=ju.du.mem;have ik:raw.length=ds.length:=dX.1;have m6:ds.length<=10:=by have:j.v.mem.length * (eB j).length<=5 * 2:=CW sh.2 z2;omega
 refine mb (fn:=lU) (R:=R) JC ?_;rw [auU];have og:=gn.hK.new;refine bL (λaK=>?_) (λhQ=>sf (by omega) _);have hR:i<ds.length:=by omega
 obtain ⟨d,aC⟩:∃ d,raw[i]?=some d:=⟨_,cp (by omega)⟩;obtain ⟨x,ao⟩:∃ x,ds[i]?=some x:=⟨_,cp hR⟩;have pP:=dX.2 i d x aC ao;have ti:fY ds i=gZ x:=by unfold fY;rw [gd,ao];rfl
 refine hq (cells:=cL.cells) cL.len (by omega) (dw.new og) aC rfl ik.symm λb o gD _=>cL.bd d ⟨gD,?_⟩
 refine g0 (vs:=d.cells) rfl (cL.single _) λb1 e' bA bm a1=>?_
 rintro dq cG;have a5:ai e' dq:=by rw [cG];exact eh _
 clear cG;have gI:=a1.new a5;have T':i % (eB j).length<(eB j).length:=Nat.mod_lt _ uK;have TO:(eB j)[i % (eB j).length]?=some (kC j i):=by unfold kC;rw [gd,cp T'];rfl
 have atw:Int.tmod (i:Int) ((eB j).length:Int)=((i % (eB j).length:Nat):Int):=rfl;have bP:=ai.an a5 bm;refine ⟨λy=>ai dq y,ay.refl _ _,rfl,by omega,?_⟩;rw [atw];refine pw (cells:=fq.cells) fq.len (by omega) (aJ.new (gn.new.new gI)) TO rfl rfl λaP mq gC=>fq.bd (kC j i) ⟨λy az=>td (i:=0) λq v aw=>by simpa using gC y az q v aw,cL.bd d ⟨λy az=>cD (ai.an az bP) rfl,?_⟩⟩
 have Ev:∀ {y:av},ai dq y->bK 196 [d.val] y λv w'=>v=.int .u64 (fY ds i)/\ai y w':=by intro y az;rw [ti];exact E6 (pP.aO (ay.db (og.new (gI.new az))) λ_ _ e=>e)
 have hu:dp (fY ds i):=by
  rw [ti];unfold gZ;cases hw:x.words with
  |nil=>exact mw
  |cons a l=>exact pP.wf a (by rw [hw];simp)
 have one:∀ {y:av} {bT:Nat},ai dq y->aF y bT (kC j i).cells pG->dq.heap.size<=bT->∀ (flag:Bool),flag=qb j ds i->∀ (aT:aH),Go.b8.W prog (sub (b6 lU) [1,1,1,1,1,1,1,1,0,1,0,0,1,1,0,0,1,1,0,1]) (Dx ⟨a2,0,none⟩ pN (eB j).length te pa n pc pb n lE i ⟨bT,0,none⟩ (fY ds i) f8 ds.length dc ds.length i flag aT) (a8 6 (a8 5 (bk (λenv w=>Go.b8.W prog (sub (b6 lU) [1,1,1,1,1,1,1,1,0,1,0,0,1,1,1]) env (cw prog lU R oB) w) (cw prog lU R oB)))) y:=by
  intro y bT az ej zW flag vX aT;have aX:=gI.size;have cr:=gn.new.size;refine ajH (gn.oU (gI.new az)) (by omega) Ky ej ⟨by omega,λfo=>?_⟩ hu vX (λ_ _=>rfl) (λak cZ dQ wa=>ob hR ak y cZ (gI.new az) dQ wa) (λak cZ p1 n' wK Hs Ht nU TI ly=>?_)
  ·have:=gn.Gy.lt fo;omega
  ·refine Cp (Cp (ia ?_));rw [au9,cn (x:=(i:Int)+1) (by omega) (by omega)];exact Kx hR ak cZ p1 n' wK Hs Ht _ TI ly
 have vG:∀ {t:Bool},(kC j i).exact=true->t=decide (fY ds i>(kC j i).least)->t=qb j ds i:=λhe aZ=>by unfold qb;rw [he,aZ];rfl
 have Gh:(kC j i).exact=false->false=qb j ds i:=λhe=>by unfold qb;rw [he];rfl
 refine ⟨?_,?_⟩
 ·refine aR (Ev (ay.refl _ _)) ?_;rintro v hh ⟨rfl,bz⟩;refine ⟨_,rfl,bz,?_⟩;rintro jB gK ih eO;obtain ⟨dL,bH⟩:=b4 ih eO;have dL:aF gK jB Cn.cells pG:=dL;clear eO;have pq:=bz.size;refine ⟨bz.new bH,gL (vs:=(kC j i).cells) dL rfl (fq.single _) λjq e4 eu=>?_⟩;have cg:ai dq jq:=(bz.new bH).trans eu λk aK e=>by omega
  exact ⟨cg,_,e4.cell (i:=2) rfl,kk (λhe=>⟨_,e4.cell (i:=1) rfl,one cg e4 (by omega) _ (vG he rfl) _⟩) (λhe=>one cg e4 (by omega) _ (Gh he) _)⟩
 ·rintro jB gK ih eO;obtain ⟨dL,bH⟩:=b4 ih eO;have dL:aF gK jB Cn.cells pG:=dL;clear eO;refine ⟨bH,?_⟩;refine aR (Ev bH) ?_;rintro v hh ⟨rfl,bz⟩;refine ⟨_,rfl,bH.new bz,gL (vs:=(kC j i).cells) (ai.an bz dL) rfl (fq.single _) λjq e4 eu=>?_⟩;have cg:ai dq jq:=(bH.new bz).trans eu λk aK e=>by omega
  exact ⟨cg,_,e4.cell (i:=2) rfl,kk (λhe=>⟨_,e4.cell (i:=1) rfl,one cg e4 (by omega) _ (vG he rfl) _⟩) (λhe=>one cg e4 (by omega) _ (Gh he) _)⟩
theorem ahL (ju:fy w0 u a2 tb r m j V (0,0)) (j0:ds.length=j.v.mem.length * (eB j).length)
  (aJ:bW u pN (y3 (eB j)).flatten) (dw:bW w0 f8 (j6 raw).flatten) (dX:lN A w0 raw ds) (aT:aH) {QX:Exit->aH->aV} (ap9:∀ env w,QX .ret env w=ga prog lU R .ret env w)
  (ob:(List.range ds.length).any (qb j ds)=true->∀ z cZ,ai u z->ay (λk=>k=a2) z cZ->fy w0 cZ a2 tb r m j V (11,0)->R (.bool false) cZ)
  (J:(List.range ds.length).any (qb j ds)=false->∀ cZ pa n pc pb lE aT,zp w0 u cZ a2 tb r m j V pa n pc pb lE (nT j ds ds.length)->n<=ds.length->
   Go.b8.W prog (sub (b6 lU) [1,1,1,1,1,1,1,1,1]) (NM ⟨a2,0,none⟩ pa n pc pb n lE aT) QX cZ) :
  dT prog (.loop (sub (b6 lU) [1,1,1,1,1,1,1,1,0,1,0,0])) (Dw ⟨a2,0,none⟩ pN (eB j).length te none 0 0 none 0 0 f8 ds.length dc ds.length 0 aT)
   (a8 4 (bk (λenv w=>Go.b8.W prog (sub (b6 lU) [1,1,1,1,1,1,1,1,1]) env QX w) QX)) u:=by
 refine e2 mix (λq env z=>∃ (i:Nat) (pa:ax) (n pc:Nat) (pb:ax) (lE:Nat) (aT:aH),q=ds.length - i/\i<=ds.length/\env=Dw ⟨a2,0,none⟩ pN (eB j).length te pa n pc pb n lE f8 ds.length dc ds.length i aT/\zp w0 u z a2 tb r m j V pa n pc pb lE (nT j ds i)/\n<=i/\∀ k,k<i->qb j ds k=false) ds.length
  ⟨0,none,0,0,none,0,_,by omega,by omega,rfl,⟨ju,ay.refl _ _,cy.nil _ _,bu.nil _ _ _,λk J=>absurd J yP,ju.new.size⟩,by omega,λk J=>by omega⟩ ?_
 rintro q env z ⟨i,pa,n,pc,pb,lE,aT,rfl,aD,rfl,gn,Ky,tk⟩;refine aiJ j0 aJ dw dX aD gn Ky aT (R:=R) ap9 (λaK ak e' cZ a1 dQ wa=>ob ?_ e' cZ (gn.new.new a1) dQ wa) (λaK ak cZ p1 n' wK Hs Ht nU TI ly=>?_) (λg2 nU=>?_)
 ·exact CX.2 ⟨i,jT.2 aK,ak⟩
 ·exact ia ⟨ds.length - (i+1),by omega,i+1,p1,n',wK,Hs,Ht,nU,rfl,by omega,rfl,TI,ly,λk J=>by
   rcases CV.1 J with J | rfl
   ·exact tk k J
   ·exact ak⟩
 ·subst g2;refine CP (Cq (ia ?_));refine J ?_ z pa n pc pb lE _ gn Ky;rw [Q6];intro k fo;rw [tk k (jT.1 fo)];simp
end
section
theorem hM.Lv {b_:av} {iK:kv} {R l9:dM} (ar:hM A w0 u a2 tb B r m j V R ct) (jZ:R.ask=none) (kZ:R.gb=false) (J:ay (λk=>k=a2) ct b_) (ju:fy w0 b_ a2 tb r m j iK l9.out) (af:l9.bD=R.bD) (al:l9.ask=none) (aL:l9.gb=false):hM A w0 u a2 tb B r m j iK l9 b_:=by
 obtain ⟨er,q4,yG,oK⟩:=ar.j9;rw [jZ] at oK;refine ⟨ar.aO.trans J λk _ e=>.inr e,ju,er,?_,by rw [yG,kZ,aL],?_⟩
 ·rw [af];exact q4.aO J λe=>ju.ne e.symm
 ·rw [al];exact oK
theorem hM.seq {cS:av} {Ip:Nat} {R:dM} (J:ay (λk=>k=tb\/k=a2) u ct) (aj:ai ct z) (ar:hM A w0 z a2 tb Ip r m j V R cS) (hy:B<=Ip):hM A w0 u a2 tb B r m j V R cS:=by
 refine ⟨(J.new aj).trans ar.aO λ_ _ e=>e,ar.hK,?_⟩;obtain ⟨er,af,al,aL⟩:=ar.j9;refine ⟨er,af,al,?_⟩;cases cC:R.ask with
 |none=>rw [cC] at aL;exact aL
 |some vs=>rw [cC] at aL;obtain ⟨uC,w1,bs,bI,dd⟩:=aL;exact ⟨uC,w1,bs,by omega,dd⟩
def aez:bn:=⟨0,0,0,0,0,0,[],0,0⟩
def vE (p:bn×fq) (CL:Int):Bool:=decide (CL≠p.1.old) && (decide (CL≠p.2.least) && (p.2.exact || decide (CL<p.2.least)))
def x7 (L:List (bn×fq)) (ds:List a_) (i:Nat):Bool:=vE (L.getD i (aez,Cn)) (fY ds i)
theorem ahM (bE:L.length=ds.length) (m6:ds.length<=100)
  (ju:fy w0 z a2 tb r m j V (0,0)) (dw:bW w0 f8 (j6 raw).flatten) (dX:lN A w0 raw ds) (aD:i<=ds.length) (aj:n=L.length) (d':cy u z pa n pc (L.map Prod.fst)) (are:bW z pb (y3 (L.map Prod.snd)).flatten) (aT:aH)
  (JC:∀ env w,oB .ret env w=ga prog lU R .ret env w)
  (ob:i<ds.length->x7 L ds i=true->∀ e' cZ,ai z e'->ay (λk=>k=a2) e' cZ->fy w0 cZ a2 tb r m j V (11,0)->R (.bool false) cZ)
  (Kx:i<ds.length->x7 L ds i=false->∀ cZ aT,ai z cZ->oB .normal (Gg ⟨a2,0,none⟩ pa n pc pb n lE f8 ds.length dc ds.length (i+1:Nat) aT) cZ)
  (sf:i=ds.length->∀ aT,oB (.exit 7) (SP aT) z) :
  Go.b8.W prog (sub (b6 lU) [1,1,1,1,1,1,1,1,1,1,1,0,1,0,0]) (Gg ⟨a2,0,none⟩ pa n pc pb n lE f8 ds.length dc ds.length i aT) oB z:=by
 have ik:raw.length=ds.length:=dX.1;refine mb (fn:=lU) (R:=R) JC ?_;rw [auV];have og:=ju.new;refine bL (λaK=>?_) (λhQ=>sf (by omega) _);have hR:i<ds.length:=by omega
 obtain ⟨d,aC⟩:∃ d,raw[i]?=some d:=⟨_,cp (by omega)⟩;obtain ⟨x,ao⟩:∃ x,ds[i]?=some x:=⟨_,cp hR⟩;obtain ⟨p,ar⟩:∃ p,L[i]?=some p:=⟨_,cp (by omega)⟩;have O8:L.getD i (aez,Cn)=p:=by rw [gd,ar];rfl
 have pP:=dX.2 i d x aC ao;have ti:fY ds i=gZ x:=by unfold fY;rw [gd,ao];rfl
 obtain ⟨dD,cV,eb⟩:=d'.ex;have aEh:dD.length=L.length:=by rw [eb.1,jS]
 obtain ⟨v,aw⟩:∃ v,dD[i]?=some v:=⟨_,cp (by omega)⟩;have j4:=eb.2 i v p.1 aw (by rw [gV,ar];rfl);have G_:v.Old=p.1.old:=by rw [j4.eq];rfl
 refine hq (cells:=cL.cells) cL.len (by omega) (dw.new og) aC rfl ik.symm λb o gD _=>cL.bd d ⟨gD,?_⟩
 refine g0 (vs:=d.cells) rfl (cL.single _) λb1 e' bA bm a1=>?_
 rintro dq cG;have a5:ai e' dq:=by rw [cG];exact eh _
 clear cG;have gI:=a1.new a5;have bP:=ai.an a5 bm;refine ⟨λy=>ai dq y,ay.refl _ _,cL.bd d ⟨λy az=>cD (ai.an az bP) rfl,?_⟩⟩;have TO:(L.map Prod.snd)[i]?=some p.2:=by rw [gV,ar];rfl
 refine pw (cells:=fq.cells) fq.len (by omega) (are.new gI) TO rfl (by rw [jS];exact aj) λaP mq gC=>fq.bd p.2 ⟨λy az=>td (i:=0) λq v aw=>by simpa using gC y az q v aw,?_⟩
 have Ev:∀ {y:av},ai dq y->bK 196 [d.val] y λv w'=>v=.int .u64 (fY ds i)/\ai y w':=by intro y az;rw [ti];exact E6 (pP.aO (ay.db (og.new (gI.new az))) λ_ _ e=>e)
 have one:∀ {y:av},ai dq y->∀ (flag:Bool),flag=x7 L ds i->∀ (aT:aH),Go.b8.W prog (sub (b6 lU) [1,1,1,1,1,1,1,1,1,1,1,0,1,0,0,1,1,0,0,1,1,1]) (x6 ⟨a2,0,none⟩ pa n pc pb n lE f8 ds.length dc ds.length i flag aT) (a8 8 (bk (λenv w=>Go.b8.W prog (sub (b6 lU) [1,1,1,1,1,1,1,1,1,1,1,0,1,0,0,1,1,1]) env (cw prog lU R oB) w) (cw prog lU R oB))) y:=by
  intro y az flag vX aT;refine mb (fn:=lU) (R:=R) (λ_ _=>rfl) ?_;rw [au_];cases flag with
  |true=>refine g8 rfl ?_;refine aR (nv (ju.ck (gI.new az)) 11) ?_;rintro v cZ ⟨rfl,dQ,wa⟩;exact ⟨_,rfl,ob hR vX.symm y cZ (gI.new az) dQ wa⟩
  |false=>refine eX rfl (Cp (ia ?_));rw [ava,cn (x:=(i:Int)+1) (by omega) (by omega)];exact Kx hR vX.symm y _ (gI.new az)
 have bY:x7 L ds i=vE p (fY ds i):=by unfold x7;rw [O8]
 refine ⟨?_,?_⟩
 ·refine aR (Ev (ay.refl _ _)) ?_;rintro v hh ⟨rfl,bz⟩;refine ⟨_,rfl,bz,?_⟩;rintro jB gK ih eO;obtain ⟨dL,bH⟩:=b4 ih eO;have dL:aF gK jB Cn.cells pG:=dL;clear eO;have pq:=bz.size;refine ⟨bz.new bH,gL (vs:=p.2.cells) dL rfl (fq.single _) λjq e4 eu=>?_⟩;have az:ai dq jq:=(bz.new bH).trans eu λk aK e=>by omega
  refine hq (cells:=a0.cells) a0.len (by omega) (l:=dD) (bu.new (gI.new az) cV).rd aw rfl (by omega) λb o _ ab=>⟨_,ab 4 _ rfl,?_⟩
  rw [G_];refine fX (λaf=>⟨_,e4.cell (i:=1) rfl,fX (λal=>⟨_,e4.cell (i:=2) rfl,kk (λhe=>one az _ ?_ _) (λhe=>⟨_,e4.cell (i:=1) rfl,one az _ ?_ _⟩)⟩) (λal=>one az _ ?_ _)⟩) (λaf=>one az _ ?_ _)
  ·rw [bY];unfold vE;rw [decide_eq_true af,decide_eq_true al,he];rfl
  ·rw [bY];unfold vE;rw [decide_eq_true af,decide_eq_true al,he];rfl
  ·rw [bY];unfold vE;rw [decide_eq_true af,decide_eq_false (λe=>e al)];rfl
  ·rw [bY];unfold vE;rw [decide_eq_false (λe=>e af)];rfl
 ·rintro jB gK ih eO;obtain ⟨dL,bH⟩:=b4 ih eO;have dL:aF gK jB Cn.cells pG:=dL;clear eO;refine ⟨bH,?_⟩;refine aR (Ev bH) ?_;rintro v hh ⟨rfl,bz⟩;refine ⟨_,rfl,bH.new bz,gL (vs:=p.2.cells) (ai.an bz dL) rfl (fq.single _) λjq e4 eu=>?_⟩;have az:ai dq jq:=(bH.new bz).trans eu λk aK e=>by omega
  refine hq (cells:=a0.cells) a0.len (by omega) (l:=dD) (bu.new (gI.new az) cV).rd aw rfl (by omega) λb o _ ab=>⟨_,ab 4 _ rfl,?_⟩
  rw [G_];refine fX (λaf=>⟨_,e4.cell (i:=1) rfl,fX (λal=>⟨_,e4.cell (i:=2) rfl,kk (λhe=>one az _ ?_ _) (λhe=>⟨_,e4.cell (i:=1) rfl,one az _ ?_ _⟩)⟩) (λal=>one az _ ?_ _)⟩) (λaf=>one az _ ?_ _)
  ·rw [bY];unfold vE;rw [decide_eq_true af,decide_eq_true al,he];rfl
  ·rw [bY];unfold vE;rw [decide_eq_true af,decide_eq_true al,he];rfl
  ·rw [bY];unfold vE;rw [decide_eq_true af,decide_eq_false (λe=>e al)];rfl
  ·rw [bY];unfold vE;rw [decide_eq_false (λe=>e af)];rfl
end
section
def wd (L:List (bn×fq)) (qh:dM):dM:=
 if qh.ok=false then qh else if (List.range qh.done.length).any (x7 L qh.done)=true then ⟨false,[],(11,0),qh.bD,none,false⟩ else ⟨true,[],(0,0),qh.bD,none,false⟩
def Iz (j:c8) (ka:dM):dM:=
 if ka.ok=false then ka else if (List.range ka.done.length).any (qb j ka.done)=true then ⟨false,[],(11,0),ka.bD,none,false⟩
 else wd (nT j ka.done ka.done.length) (cE ka.bD ((nT j ka.done ka.done.length).map Prod.fst))
def mN (j:c8) (G:List (List a_)):dM:=Iz j (cE G (mM j))
theorem AC (j:c8):(mM j).length=j.v.mem.length * (eB j).length:=by
 unfold mM;induction j.v.mem with
 |nil=>simp
 |cons a l c5=>simp [c5,Fx,Nat.add_comm]
theorem IG {T:kb} {G:List (List a_)} (ab:fy w0 u a2 tb r m j V (0,0)) (bq:h2 A w0 u tb T G) (c7:kl T) :
  bK 179 [ptr a2] u (tR A w0 u a2 tb r m j V (mN j G)):=by
 refine bO Tryz.func179 ?_;rw [ptr,avS];have tv:=ab.an.lt;have yD:=bq.an.lt;have sh:=ab.du.mem;obtain ⟨uK,z2⟩:=Wq j;have m6:j.v.mem.length * (eB j).length<=10:=by have:j.v.mem.length * (eB j).length<=5 * 2:=CW sh.2 z2;omega
 refine aR (akl ab) ?_;rintro v ct ⟨pN,te,rfl,a1,aJ,yq⟩;have eC:=ab.ck a1;have fI:=a1.size;refine ⟨_,_,_,rfl,_,_,_,eC.an.cell (i:=4) rfl,?_⟩;refine ajF eC aJ _ λcS pa n pc aT a5 d'=>?_
 refine mb (fn:=lU) (R:=tR A w0 u a2 tb r m j V (mN j G)) (λ_ _=>rfl) ?_;rw [au5];have ja:=a1.new a5;refine aR (yN (eC.ck a5) (bq.new ja) c7 eC.new (by omega) (by omega) d' (by rw [AC];omega)) ?_;rintro v b2 ⟨f8,dc,raw,rfl,g',dw,dX,ik⟩;have asA:=g'.aO;have g':hM A w0 u a2 tb u.heap.size r m j V (cE G (mM j)) b2:=hM.of g' ja fI;have dX:lN A w0 raw (cE G (mM j)).done:=dX;have ik:(cE G (mM j)).ok=true->raw.length=(mM j).length:=ik;refine ⟨_,_,_,_,rfl,ht (λq9=>?_) (λaZ=>?_)⟩
 ·have q9:(cE G (mM j)).ok=false:=q9;have c1:mN j G=cE G (mM j):=if_pos q9;rw [c1];exact ⟨by rw [q9],g'⟩
 have aZ:(cE G (mM j)).ok=true:=aZ;obtain ⟨aq,J,kZ⟩:=Ap aZ;have mj:=g'.hK;rw [aq] at mj;have c1:mN j G=if (List.range (cE G (mM j)).done.length).any (qb j (cE G (mM j)).done)=true then ⟨false,[],(11,0),(cE G (mM j)).bD,none,false⟩
   else wd (nT j (cE G (mM j)).done (cE G (mM j)).done.length) (cE (cE G (mM j)).bD ((nT j (cE G (mM j)).done (cE G (mM j)).done.length).map Prod.fst)):=by
  unfold mN Iz;rw [if_neg (by rw [aZ];simp)]
 have j0:(cE G (mM j)).done.length=j.v.mem.length * (eB j).length:=by rw [<-dX.1,ik aZ,AC]
 have ab8:=aJ.new a5;have GK:bW b2 pN (y3 (eB j)).flatten:=ab8.aO asA (mK ab8 λk fo e=>by have:=yq k fo;rcases e with e | e<;>omega);rw [dX.1];generalize cE G (mM j)=ka at g' dX j0 c1 J kZ mj;clear ik aZ aq;refine ahL mj j0 GK dw dX _ (R:=tR A w0 u a2 tb r m j V (mN j G)) (QX:=cw prog lU (tR A w0 u a2 tb r m j V (mN j G)) (ga prog lU (tR A w0 u a2 tb r m j V (mN j G)))) (λ_ _=>rfl) (λak z cZ da m7 atf=>?_) (λak z pb j8 aeM aeP aw6 PM gn aD5=>?_)
 ·rw [c1,if_pos ak];exact ⟨rfl,g'.Lv J kZ ((ay.db da).trans m7 λ_ _ e=>e) atf rfl rfl rfl⟩
 rw [if_neg (by rw [ak];simp)] at c1;generalize nT j ka.done ka.done.length=L at gn c1;rw [au8];obtain ⟨aaE,Gz,dY,JH⟩:=g'.j9;rw [J] at JH;rw [kZ] at dY;have aEf:=mj.an.lt;have aEv:=Gz.an.lt;have ap6:j8=L.length:=by have:=gn.rF.len;rwa [jS] at this
 refine aR (yN gn.hK (Gz.new gn.new) ⟨JH,dY⟩ mj.new (by omega) (by omega) gn.rF (by rw [jS];omega)) ?_;rintro v ff ⟨aph,api,afn,rfl,iw,Ad,GJ,UM⟩;have ac1:=iw.aO;have iw:hM A w0 u a2 tb u.heap.size r m j V (cE ka.bD (L.map Prod.fst)) ff:=hM.seq g'.aO gn.new iw (by have:=g'.aO.size;omega);have GJ:lN A w0 afn (cE ka.bD (L.map Prod.fst)).done:=GJ;have UM:(cE ka.bD (L.map Prod.fst)).ok=true->afn.length=(L.map Prod.fst).length:=UM;refine ⟨_,_,_,_,rfl,ht (λq9=>?_) (λaZ=>?_)⟩
 ·have q9:(cE ka.bD (L.map Prod.fst)).ok=false:=q9;rw [c1,show wd L (cE ka.bD (L.map Prod.fst))=cE ka.bD (L.map Prod.fst) from if_pos q9];exact ⟨by rw [q9],iw⟩
 have aZ:(cE ka.bD (L.map Prod.fst)).ok=true:=aZ;obtain ⟨re,eN,U8⟩:=Ap aZ;have O_:=iw.hK;rw [re] at O_;have zR:L.length=(cE ka.bD (L.map Prod.fst)).done.length:=by rw [<-GJ.1,UM aZ,jS]
 unfold wd at c1;rw [if_neg (by rw [aZ];simp)] at c1;rw [GJ.1];generalize cE ka.bD (L.map Prod.fst)=qh at iw GJ c1 eN U8 O_ zR;have pY:cy b2 ff pb j8 aeM (L.map Prod.fst):=gn.rF.aO ac1 λk e=>by rcases e with e | e<;>omega
 have arf:bW ff aeP (y3 (L.map Prod.snd)).flatten:=gn.Gy.rd.aO ac1 (mK gn.Gy.rd λk fo e=>by have:=gn.kD k fo;rcases e with e | e<;>omega);refine e2 mix (λq env z=>∃ (i:Nat) (aT:aH),q=qh.done.length - i/\i<=qh.done.length/\env=Gg ⟨a2,0,none⟩ pb j8 aeM aeP j8 aw6 aph qh.done.length api qh.done.length i aT/\ai ff z/\∀ k,k<i->x7 L qh.done k=false) qh.done.length
  ⟨0,_,by omega,by omega,rfl,ay.refl _ _,λk J=>by omega⟩ ?_
 rintro q env z ⟨i,aT,rfl,aD,rfl,da,tk⟩;refine ahM zR (by omega) (O_.ck da) Ad GJ aD ap6 (pY.new da) (arf.new da) aT (R:=tR A w0 u a2 tb r m j V (mN j G)) (λ_ _=>rfl) (λaK ak e' cZ tt dQ wa=>?_) (λaK ak cZ nU ly=>?_) (λg2 nU=>?_)
 ·rw [c1,if_pos (CX.2 ⟨i,jT.2 aK,ak⟩)];exact ⟨rfl,iw.Lv eN U8 ((ay.db (da.new tt)).trans dQ λ_ _ e=>e) wa rfl rfl rfl⟩
 ·exact ia ⟨qh.done.length - (i+1),by omega,i+1,nU,rfl,by omega,rfl,da.new ly,λk J=>by
   rcases CV.1 J with J | rfl
   ·exact tk k J
   ·exact ak⟩
 ·subst g2;refine CP (Cq (ia ?_));rw [au'];have fp:¬ (List.range qh.done.length).any (x7 L qh.done)=true:=by intro h;obtain ⟨k,hk,acq⟩:=CX.1 h;rw [tk k (jT.1 hk)] at acq;cases acq
  rw [c1,if_neg fp];exact ⟨rfl,iw.Lv eN U8 (ay.db da) (O_.ck da) rfl rfl rfl⟩
end
end Go.Proofs.YtmkljjbioomepaaGreat
