import Derived.Test.YtmkljjbioomepaaGreata42
import Derived.Test.YtmkljjbioomepaaGreata43
import Derived.Test.YtmkljjbioomepaaGreata04
import Derived.Test.YtmkljjbioomepaaGreata13
set_option linter.all false
set_option maxHeartbeats 4000000
set_option maxRecDepth 100000
namespace Go.Proofs.YtmkljjbioomepaaGreat
open Go.Proofs.Tryz Go.b8
variable {A:bB} {F ew G:a9} {X:cF} {a pa sa:ax} {b:Bool} {c:Int} {cc a3 m most n pc sc y:Nat} {g:kt} {gr:Nat->fa} {rs:eI} {fg:e3} {sch:bR} {ts:List ir} {u w:av} {aG:Nat->Tag}
section
open mA
theorem YR {x:Int} (ao:gF x):bK 19 [.int .i64 x] w λv u=>∃ a c,v=.slice a (hi (x % 14).toNat).length c/\bW u a (is (cm (hi (x % 14).toNat)))/\ai w u:=by
 refine bO Tryz.func19 ?_;rw [ayS];obtain ⟨y,az,u0⟩:∃ y:Nat,x % 14=y/\y<14:=⟨(x % 14).toNat,by omega,by omega⟩;refine e2 mix (λm env u=>∃ (i:Nat) (a:ax) (n c:Nat) (aT:aH),m=4 - i/\i<=4/\n=(wC y i).length/\env=Js x a n c i aT/\ai w u/\bu u 3 1 a n c (is (cm (wC y i)))/\∀ k,a7 a k->w.heap.size<=k) 4
  ⟨0,none,0,0,_,rfl,by omega,rfl,rfl,ay.refl _ _,bu.nil _ _ _,λk J=>(HV J).elim⟩ ?_
 rintro m env u ⟨i,a,n,c,aT,rfl,aD,rfl,rfl,aj,cV,fH⟩;rw [nl];refine bL (λaK=>?_) (λhQ=>?_)
 ·have aK:i<4:=by omega
  refine aR (FV _ _ _ ao (by omega)) ?_;rintro v ct ⟨rfl,rfl⟩;rw [if_neg (by omega),az];refine ⟨_,rfl,?_⟩;have hlen:=ahF y i;have bY:IntKind.i64.wrap ((y:Int)+1)=((y+1:Nat):Int):=by rw [cn (by omega) (by omega)];omega
  have bg:IntKind.u64.wrap (i:Int)=(i:Int):=qJ (by omega) (by omega);dsimp only;rw [bY,bg,aiW y u0 i aK,cn (x:=(i:Int)+1) (by omega) (by omega),cn (x:=96+(i:Int)) (by omega) (by omega)];refine ⟨by omega,kk (λak=>?_) (λak=>?_)⟩
  ·refine alE cV (x:=96+(i:Int)) (by omega) ?_;intro b ap cap b2 ej yy ek fC;have cr:=aj.size;have aX:=af8 y i;rw [if_pos ak] at aX;refine ⟨4 - (i+1),by omega,i+1,ap,_,cap,_,rfl,by omega,by rw [aX,gp];rfl,rfl,Hr aj ek fH,?_,λk J=>?_⟩
   ·rw [aX];have:is (cm (wC y i++[96+i]))=is (cm (wC y i)++[96+(i:Int)]):=by simp [is,cm]
    rw [this];exact yy
   ·rcases fC k J with af | af
    ·exact fH k af
    ·omega
  ·have aX:=af8 y i;rw [if_neg (by simp [ak]),qd] at aX;exact ⟨4 - (i+1),by omega,i+1,a,_,c,_,rfl,by omega,by rw [aX],rfl,aj,by rw [aX];exact cV,fH⟩
 ·have:i=4:=by omega
  subst this;rw [awx];have e:(x % 14).toNat=y:=by omega
  rw [e];exact ⟨a,c,rfl,cV.rd,aj⟩
def L8:dx:=⟨0,0,⟨0⟩,⟨0,0,0,0,0⟩,⟨0,0,0,⟨0,none,0,0⟩,none,0,0,none,0,0⟩,⟨0,0,0,⟨0,none,0,0⟩,0,0,0⟩,none,0,0,false,false,0,⟨0,none,0,0⟩,0,none,0,0,0,0,0,0,0⟩
def p0 (c seq lines:Int) (fg:e3) (fw:ax) (wl h0:Nat):dx:={ L8 with Kind:=3,Client:=c,o4:=⟨c,seq,lines,fg,none,0,0,fw,wl,h0⟩ }
def EZ (c prev:Int) (fg:e3):dx:={ L8 with Kind:=4,Client:=c,Recover:=⟨c,1,101,fg,0,2,prev⟩ }
def Ja (p:a6):a6:={ p with Head:=IH .u64 p.Head 255,MM:=IntKind.u64.wrap (p.MM+1) }
def Bu (n:bt) (L:eI):List a6:=L.map λl=>Ja (n.g6 l)
theorem Ya (h:c4 A aG w a3 X) (uQ:1<=n/\n<=5) {x:mm} (ao:X.nodes[0]?=some x) (aC:x.n.down=false)
  {L:eI} (bE:∀ l ∈ L,96<=l/\l<256/\l * 8+8<=x.n.words.length) (hlen:L.length<=1000) (aA:bW w a (is (cm L))) (c seq:Int) :
  bK 24 [ptr a3,.int .i64 n,.int .i64 c,.int .i64 seq,.slice a L.length cc] w λv u=>∃ fg fw h0,v=.tuple #[(p0 c seq 101 fg fw L.length h0).val,.bool true]/\ai w u/\ky A u fg (rD n)/\bu u hs 9 fw L.length h0 (nR (Bu x.n L)).flatten/\∀ k,a7 fw k->w.heap.size<=k:=by
 refine bO Tryz.func24 ?_;rw [ptr,ayx];rintro b1 w1 bA br;obtain ⟨bm,a1⟩:=b4 bA br;have bm:aF w1 b1 L8.cells 45:=bm;clear br;refine aR (RE _ (n:=n) (by omega) (by omega)) ?_;rintro v aS ⟨fg,af3,rfl,aw,a5,_,rfl⟩;have g3:=bm.lt;have fI:=a1.size;have jc:=a5.size;have aw:ky (λk=>k<w1.heap.size\/aS.heap.size<=k) aS fg (rD n):=aw.mono λk aK J=>J.resolve_right (by omega)
 refine e3.bd fg ⟨rfl,?_⟩;rintro aP aY cv dY;obtain ⟨cx,bf⟩:=b4 cv dY;have u1:=ai.an (a5.new bf) bm;clear dY;refine gL (vs:=fW.cells ⟨c,seq,101,fg,none,0,0,none,0,0⟩) cx rfl (fW.single ⟨c,seq,101,fg,none,0,0,none,0,0⟩) λbZ dk dv=>?_
 have oQ:=dv.an u1 (by omega);have jG:ai aS bZ:=bf.trans dv λk aK e=>by omega
 have bz:ai w bZ:=(a1.new a5).new jG;have nM:aP=aS.heap.size:=cv;have wi:=aw.new jG;clear bm u1 cx dv bf jG;refine e2 mix (λq env z=>∃ (i:Nat) (fw:ax) (h0:Nat) (aT:aH),q=L.length - i/\i<=L.length/\env=NU ⟨a3,0,none⟩ c a L.length cc ⟨b1,0,none⟩ ⟨aP,0,none⟩ i aT/\ai w z/\ky (λk=>k<w1.heap.size\/aS.heap.size<=k) z fg (rD n)/\aF z b1 L8.cells 45/\aF z aP (fW.cells ⟨c,seq,101,fg,none,0,0,fw,i,h0⟩) 39/\bu z hs 9 fw i h0 (nR (Bu x.n (L.take i))).flatten/\∀ k,a7 fw k->aP<k) L.length
  ⟨0,none,0,_,rfl,by omega,rfl,bz,wi,oQ,dk,bu.nil _ _ _,λk J=>(HV J).elim⟩ ?_
 clear oQ dk;rintro q env z ⟨i,fw,h0,aT,rfl,aD,rfl,aj,Pl,bm,bP,cV,fH⟩;rw [avy];refine bL (λaK=>?_) (λhQ=>?_)
 ·have hR:i<L.length:=by omega
  obtain ⟨BV,nM,z7⟩:=bE L[i] (qS hR);have a':(cm L)[i]?=some (L[i]:Int):=by simp [cm,hR]
  have qz:Bu x.n (L.take (i+1))=Bu x.n (L.take i)++[Ja (x.n.g6 L[i])]:=by unfold Bu;rw [agF hR,pB];rfl
  generalize L[i]=l at BV nM z7 a' qz;refine VQ (aA.new aj) a' rfl (by simp [cm]) λb o ab=>⟨_,ab _ (ay.refl _ _),?_⟩
  refine aR (FN (h.new aj) ao (l:=l) (by omega) (by omega) aC) ?_;rintro v cS ⟨rfl,a5⟩;refine a6.bd (x.n.g6 l) ⟨true,rfl,?_⟩;rintro bT b2 ej oi;obtain ⟨Py,uS⟩:=b4 ej oi;clear oi;refine gL (vs:=(x.n.g6 l).cells) Py rfl (a6.single _) λc6 aE dv=>?_
  have bz:ai z c6:=(a5.new uS).trans dv λk aK e=>by have:=a5.size;omega
  have aDC:z.heap.size<=bT:=by have:=a5.size;omega
  clear Py uS dv;refine eX rfl ⟨_,aE.cell (i:=1) rfl,?_⟩;refine FU aE (o:=1) (by simp [a6.cells]) λff dL g_=>?_
  refine yR (by omega) (by omega) ⟨_,dL.cell (i:=2) rfl,?_⟩;refine yR (by omega) (by omega) ?_;refine FU dL (o:=2) (by simp [a6.cells]) λjP e4 eu=>?_
  have fQ:aF jP bT (Ja (x.n.g6 l)).cells hs:=e4;have dg:ai z jP:=bz.trans (g_.trans eu λ_ _ h=>h) λk aK e=>by omega
  have Pu:=ai.an dg bm;have adP:=ai.an dg bP;refine ⟨_,_,_,adP.cell (i:=6) rfl,?_⟩;refine a6.bd (Ja (x.n.g6 l)) ⟨cD fQ rfl,?_⟩;refine am9 (cV.new dg) (by omega) ?_;intro ec ap cap u8 iO asn fe fC;have Pv:=fe.an Pu (λe=>by have:=fH b1 e;omega);have atY:=fe.an adP (λe=>by have:=fH aP e;omega);have aDU:=bP.lt;have adm:=dg.size;have UU:=aj.size;have acf:∀ k,a7 ap k->aP<k:=λk J=>by
   rcases fC k J with af | af
   ·exact fH k af
   ·omega
  refine FU (b:=aP) atY (o:=6) (by simp [fW.cells]) λiy kI fK=>?_
  rw [cn (x:=(i:Int)+1) (by omega) (by omega)];have eT:ai w u8:=Hr (aj.new dg) fe λk J=>by have:=fH k J;omega
  have adA:=((Pl.new dg).aO fe λk J=>.inr (by have:=fH k J;omega)).aO fK λk e=>.inr (by omega)
  exact ⟨L.length - (i+1),by omega,i+1,ap,cap,_,rfl,by omega,rfl,eT.trans fK λk aK e=>by omega,adA,fK.an Pv (by omega),kI,by rw [qz];exact asn.aO fK λk J e=>by have:=acf k J;omega,acf⟩
 ·have uM:i=L.length:=by omega
  subst uM;rw [awg];rw [nx] at cV;refine fW.bd ⟨c,seq,101,fg,none,0,0,fw,L.length,h0⟩ ⟨cD bP rfl,?_⟩;refine gL (vs:=(p0 c seq 101 fg fw L.length h0).cells) bm rfl (dx.single _) λct aE J=>?_
  refine dx.bd (p0 c seq 101 fg fw L.length h0) ⟨cD aE rfl,rfl,fg,fw,h0,rfl,aj.trans J λk aK e=>by omega,?_,cV.aO J λk dQ e=>by have:=fH k dQ;omega,λk dQ=>by have:=fH k dQ;omega⟩;exact (Pl.aO J λk e=>.inl (by omega)).mono λk _ J=>.inl (by have:=h.low k J;omega)
theorem aaz (fB:∀ k,A k->k<w.heap.size) (uQ:1<=n/\n<=5) (c prev:Int) :
  bK 16 [.int .i64 n,.int .i64 c,.int .u64 prev] w λv u=>∃ fg,v=(EZ c prev fg).val/\ai w u/\ky A u fg (rD n):=by
 refine bO Tryz.func16 ?_;rw [ww];rintro b1 w1 bA br;obtain ⟨bm,a1⟩:=b4 bA br;have bm:aF w1 b1 L8.cells 45:=bm;clear br;refine aR (RE _ (n:=n) (by omega) (by omega)) ?_;rintro v aS ⟨fg,af3,rfl,aw,a5,_,rfl⟩;have fI:=a1.size;refine e3.bd fg ⟨rfl,?_⟩;refine gL (vs:=(EZ c prev fg).cells) (ai.an a5 bm) rfl (dx.single _) λaY cx ek=>?_
 refine dx.bd (EZ c prev fg) ⟨cD cx rfl,rfl,fg,rfl,(a1.new a5).trans ek λk aK e=>by omega,?_⟩;have g3:=bm.lt;exact (aw.aO ek λk e=>(by show k<w1.heap.size;omega)).mono λk _ J=>(by have:=fB k J;show k<w1.heap.size;omega)
end
section
open mA
def Sl (c:Int) (j:eP):dB mA.conv:=⟨c,.inl j,[],false,false,.inl (0,0)⟩
def aaA (c:Int) (j:c8):dB mA.conv:=⟨c,.inr j,[],false,false,.inr ⟨0,0,0,0,0⟩⟩
structure aaC (p:a6):Prop where
 head:dp p.Head
 data:∀ x ∈ mZ p,dp x
theorem YS {seq lines:Int} {fw:ax} {wl h0:Nat} {W:List a6} (aw:ky A u fg (rD n))
  (hw:bW u fw (nR W).flatten) (ps:wl=W.length) (KZ:W.length<=1000000) (wo:(nR W).flatten=[]\/kR A fw) (hu:∀ p ∈ W,aaC p) :
  io A u (p0 c seq lines fg fw wl h0) (Sl c ⟨c,seq,lines,rD n,[],W⟩):=
 ⟨rfl,rfl,rfl,rfl,nh.nil _ _ _,rfl,eJ _,⟨⟨rfl,rfl,rfl,⟨A,aw⟩,.inl rfl,rfl,by simp,⟨hw,ps,KZ,λp ar=>(hu p ar).head⟩⟩,aw,.inl rfl,wo,λp ar=>(hu p ar).data⟩,⟨rfl,rfl⟩,by show ([]:List (List a_)).length<=201;simp⟩
theorem YT {prev:Int} (aw:ky A u fg (rD n)) (ar:dp prev) :
  io A u (EZ c prev fg) (aaA c ⟨c,1,101,rD n,0,2,prev⟩):=
 ⟨rfl,rfl,rfl,rfl,nh.nil _ _ _,rfl,eJ _,⟨⟨rfl,rfl,rfl,⟨A,aw⟩,rfl,rfl,rfl,ar⟩,aw⟩,⟨rfl,rfl,rfl,rfl⟩,by show ([]:List (List a_)).length<=201;simp⟩
structure qg (w z:av) (a3:Nat) (A:bB) (aG:Nat->Tag) (X:cF) (F:a9):Prop where
 dt:c4 A aG z a3 X
 pure:X.pure=F
 new:ai w z
 own:∀ k,A k->w.heap.size<=k
section
variable {w z:av} {a3:Nat} {A:bB} {aG:Nat->Tag} {X:cF} {F:a9}
theorem qg.oU {cZ:av} (h:qg w z a3 A aG X F) (aj:ai z cZ):qg w cZ a3 A aG X F:=⟨h.dt.new aj,h.pure,h.new.new aj,h.own⟩
theorem qg.op {K:(bB)->Prop} (h:qg w z a3 A aG X F) (p:gQ A aG z a3 ew u K):∃ A' χ' eR,qg w u a3 A' χ' eR ew/\K A'/\ay A z u/\∀ k,k<z.heap.size->A' k->A k:=by
 obtain ⟨A',χ',eR,kE,cM,q5,f'⟩:=p;have uN:ay A z u:=kE.aO.mono λk _ ab=>h.dt.iL k ab
 have z':∀ k,k<z.heap.size->A' k->A k:=λk aK J=>by
  rcases (kE.iff k).1 J with af | ⟨_,af,_⟩
  ·exact h.dt.iL k (kE.grow k aK af)
  ·exact af
 refine ⟨A',χ',eR,⟨cM,q5,h.new.trans uN λk aK J=>by have:=h.own k J;omega,λk J=>?_⟩,f',uN,z'⟩;have:=h.new.size;by_cases aK:k<z.heap.size
 ·exact h.own k (z' k aK J)
 ·omega
theorem jA.owns {w0 w u:av} {L B:bB} {f0:Nat->Tag} {rS:cF} (t:jA A aG w a3 L u B f0 X) (cM:c4 A aG w a3 rS) (aj:ai w0 w) (fB:∀ k,A k->w0.heap.size<=k):∀ k,B k\/L k->w0.heap.size<=k:=λk J=>by
 have aX:=aj.size;rcases J with J | J
 ·rcases (t.next.iff k).1 J with af | ⟨_,af,_⟩
  ·by_cases aK:k<w.heap.size
   ·exact fB k (cM.iL k (t.next.grow k aK af))
   ·omega
  ·exact fB k af
 ·have:=(t.loc k J).1;omega
attribute [local irreducible] ib
theorem qg.apj (h:qg w z a3 A aG X F) (aJ:dK F) {ts:List (h8×dB conv)} {pl:Nat} (gw:pl=ts.length) (yF:bW z pa (nj ts).flatten) (Ca:∀ x ∈ ts,io A z x.1 x.2/\xH x.2) (lY:ts.length<=1000)
  {sl:Nat} (pV:sl=sch.length) (yC:bW w sa (is sch)) (j3:∀ x ∈ sch,gF x) (hm:most<=1000000) {tl:List (dB conv)} (KS:ts.map Prod.snd=tl) :
  bK 15 [ptr a3,.slice pa pl pc,.slice sa sl sc,.slice none 0 0,.int .i64 most] z λv u=>∃ la lc sO A' χ' eR,v=.slice la sO.length lc/\qg w u a3 A' χ' eR (ib F tl sch [] most).1/\sO.map Prod.snd=(ib F tl sch [] most).2/\bW u la (nj sO).flatten/\(∀ x ∈ sO,io A' u x.1 x.2)/\ay A z u/\∀ k,k<z.heap.size->A' k->A k:=by
 subst gw pV KS;obtain rfl:=h.pure;have gn:=RN h.dt aJ yF Ca lY (pc:=pc) (Y' yC h.new h.own) j3 (sc:=sc) hm;refine aR gn ?_;rintro v u ar;obtain ⟨A',χ',eR,bE,⟨la,lc,sO,rfl,B_,B4,G0,KT⟩,uN,z'⟩:=h.op ar;have hlen:sO.length=(ib X.pure (ts.map Prod.snd) sch [] most).2.length:=by rw [<-B_,jS]
 exact ⟨_,rfl,la,lc,sO,A',χ',eR,by rw [hlen],bE,B_,B4.rd,KT,uN,z'⟩
def aaB (Inv:a9->bB):Prop:=∀ F m,Inv F m->dK F/\∀ x ∈ F.gz,∃ ew cW,F.step x=(true,ew)/\cW<m/\Inv ew cW
def E4 (x:js):oF:=⟨x.hB,x.bw,x.node⟩
theorem ana (h:qg w z a3 A aG X F) {Inv:a9->bB} (f_:aaB Inv) (aN:Inv F m) (hm:m<=5000) (yC:bW w sa (is sch)) (j3:∀ x ∈ sch,gF x) (pV:sch.length<=1000) :
  bK 17 [ptr a3,.slice sa sch.length sc] z λv u=>v=.bool true/\∃ A' χ' eR ew cW,qg w u a3 A' χ' eR ew/\Inv ew cW/\ay A z u/\∀ k,k<z.heap.size->A' k->A k:=by
 refine bO Tryz.func17 ?_;rw [ptr,ay8];refine e2 mix (λq env u=>∃ (s:Nat) (aT:aH) (A':bB) (χ':Nat->Tag) (eR:cF) (ew:a9),s+q<=5000/\env=Jq ⟨a3,0,none⟩ sa sch.length sc s aT/\qg w u a3 A' χ' eR ew/\Inv ew q/\ay A z u/\∀ k,k<z.heap.size->A' k->A k) m
  ⟨0,_,A,aG,X,F,by omega,rfl,h,aN,ay.refl _ _,λ_ _ h=>h⟩ ?_
 rintro q env u ⟨s,aT,A',χ',eR,ew,aX,rfl,bE,abr,J,fB⟩;rw [av6];obtain ⟨BO,tx⟩:=f_ ew q abr;have iQ:=bE.pure;have v7:eR.cN.length<=100000000:=by
  have af:=BO.le;have al:eR.cN.length=ew.cN.length:=by rw [<-iQ];simp [cF.pure]
  omega
 have b3:y' eR.pure:=by rw [iQ];exact BO.du.ok
 refine aR (WB bE.dt b3 v7) ?_;rintro v ct ⟨mX,cc,rfl,Of⟩;rw [iQ] at Of ⊢;refine ⟨_,_,_,rfl,?_⟩;have tg:=bE.oU Of.new;refine bL (λuV=>?_) (λaE=>?_)
 ·have uV:0<ew.gz.length:=by omega
  refine aR (WB tg.dt b3 v7) ?_;rintro v cS ⟨bo,SB,rfl,DO⟩;rw [iQ] at DO ⊢;refine ⟨_,_,_,rfl,?_⟩;have zR:=tg.oU DO.new;have a5:ai u cS:=Of.new.new DO.new;have Ad:bW cS bo (ew.gz.map λx=>(E4 x).cells).flatten:=DO.own.rd;have key:∀ {i:Nat} {x:js},ew.gz[i]?=some x->bK 37 [ptr a3,x.val] cS λv b2=>v=.bool true/\∃ mz qU s6 jr nb,nb<q/\qg w b2 a3 mz qU s6 jr/\Inv jr nb/\ay A z b2/\∀ k,k<z.heap.size->mz k->A k:=λ{i x} ao=>by obtain ⟨jr,nb,bY,bg,dF⟩:=tx x (dn ao);refine aR (Rv zR.dt b3 x) ?_;rintro v b2 ⟨rfl,ar⟩;rw [iQ,bY] at ar ⊢;obtain ⟨mz,qU,s6,bs,_,bI,dd⟩:=zR.op ar;have jc:=J.size;have j2:=a5.size;exact ⟨_,rfl,rfl,mz,qU,s6,jr,nb,bg,bs,dF,(J.trans a5 λk aK e=>e.elim).trans bI λk aK e=>fB k aK e,λk aK e=>fB k aK (dd k (by omega) e)⟩
  have c7:ew.gz.length<1000000000:=by have af:=Xe BO.du.ok;have al:=BO.le;omega
  refine bL (λaK=>?_) (λhQ=>?_)
  ·have aK:s<sch.length:=by omega
   refine VQ ((yC.new bE.new).new a5) (cp aK) rfl rfl λb o ab=>⟨_,ab _ (ay.refl _ _),?_⟩
   refine aR (FV _ _ _ (j3 _ (qS aK)) (by omega)) ?_;rintro v b2 ⟨rfl,rfl⟩;refine ⟨_,rfl,bL (λh=>by omega) (λ_=>?_)⟩
   rw [if_neg (by omega)];have z8:=L' sch[s] (b:=(ew.gz.length:Int)) (by omega);have z9:=Mp sch[s] (b:=(ew.gz.length:Int)) (by omega);obtain ⟨i,aD⟩:∃ i:Nat,sch[s] % (ew.gz.length:Int)=i:=⟨(sch[s] % (ew.gz.length:Int)).toNat,by omega⟩;rw [aD];have g2:i<ew.gz.length:=by omega
   have qw:ew.gz[i]?=some ew.gz[i]:=cp g2;refine hq (cells:=λx=>(E4 x).cells) (λx=>oF.len (E4 x)) (by omega) Ad qw rfl rfl λb o gD _=>oF.bd (E4 ew.gz[i]) ⟨gD,?_⟩
   refine aR (key qw) ?_;rintro v b2 ⟨rfl,mz,qU,s6,jr,nb,bg,dF,kB,l_,pK⟩;rw [cn (x:=(s:Int)+1) (by omega) (by omega)];exact ⟨_,rfl,eX rfl ⟨nb,bg,s+1,_,mz,qU,s6,jr,by omega,rfl,dF,kB,l_,pK⟩⟩
  ·refine bL (λh=>by omega) (λ_=>?_)
   have qw:ew.gz[0]?=some ew.gz[0]:=cp uV;refine hq (cells:=λx=>(E4 x).cells) (λx=>oF.len (E4 x)) (by omega) Ad qw rfl rfl λb o gD _=>oF.bd (E4 ew.gz[0]) ⟨gD,?_⟩
   refine aR (key qw) ?_;rintro v b2 ⟨rfl,mz,qU,s6,jr,nb,bg,dF,kB,l_,pK⟩;rw [cn (x:=(s:Int)+1) (by omega) (by omega)];exact ⟨_,rfl,eX rfl ⟨nb,bg,s+1,_,mz,qU,s6,jr,by omega,rfl,dF,kB,l_,pK⟩⟩
 ·rw [aw2];exact ⟨rfl,A',χ',eR,ew,q,tg,abr,J.trans Of.new λk _ e=>e.elim,fB⟩
end
end
section
open mA
theorem C_.apw (h:C_ n y b X.pure.nodes):YD X n 101:=by
 have get:∀ (i:Nat) (x:mm),X.nodes[i]?=some x->X.pure.nodes[i]?=some x.n:=λi x ao=>by simp [cF.pure,ao]
 refine ⟨by rw [<-h.len];simp [cF.pure],λi x e9 ao aN=>h.apv (get i x ao) (get 0 e9 aN),λi x ao=>?_,by omega,by omega⟩;rw [(h.up i _ (get i x ao)).2];omega
theorem ajy (h:c4 A aG w a3 X) (aj:1<=n/\n<=3) (az:y<14) (aI:C_ n y b X.pure.nodes) (aA:bW w a (is (cm (hi y)))) :
  bK 18 [ptr a3,.slice a (hi y).length cc] w λv u=>v=.tuple #[.bool b,.bool (!b),.bool true]/\ai w u:=by
 have get:∀ (i:Nat) (x:mm),X.nodes[i]?=some x->X.pure.nodes[i]?=some x.n:=λi x ao=>by simp [cF.pure,ao]
 have hlen:X.nodes.length=n:=by rw [<-aI.len];simp [cF.pure]
 obtain ⟨eC,q7⟩:=Qe y az;refine bO Tryz.func18 ?_;rw [ptr,ays];refine aR (Ru h) ?_;rintro v ct ⟨rfl,gx⟩;obtain rfl:w=ct:=gx.symm;rw [hlen];refine ⟨_,rfl,?_⟩;refine aR (RE _ (n:=n) (by omega) (by omega)) ?_;rintro v cS ⟨fg,af3,rfl,aw,a5,_,rfl⟩;have tq:fg.h6=n:=by rw [aw.len];simp [stM]
 have ar_:bW cS fg.h1 (kL (stM n)).flatten:=aw.rd;refine e3.bd fg ⟨rfl,?_⟩;dsimp only;rw [tq];refine e2 mix (λq env z=>∃ (i:Nat) (dS eV:Bool) (aT:aH),q=(hi y).length - i/\i<=(hi y).length/\env=NT ⟨a3,0,none⟩ a (hi y).length cc dS eV fg.h1 n fg.iJ i aT/\dS=(if i=0 then true else b)/\eV=(if i=0 then true else !b)/\ai cS z) (hi y).length
  ⟨0,true,true,_,rfl,by omega,rfl,rfl,rfl,ay.refl _ _⟩ ?_
 rintro q env z ⟨i,dS,eV,aT,rfl,aD,rfl,kB,l_,aE⟩;rw [avw];refine bL (λaK=>?_) (λhQ=>?_)
 ·have aK:i<(hi y).length:=by omega
  refine e2 mix (λq env cZ=>∃ (j:Nat) (t4 t5:Bool) (aT:aH),q=n - j/\j<=n/\env=nE ⟨a3,0,none⟩ a (hi y).length cc t4 t5 fg.h1 n fg.iJ i j aT/\t4=(if i=0/\j=0 then true else b)/\t5=(if i=0/\j=0 then true else !b)/\ai cS cZ) n
   ⟨0,dS,eV,_,rfl,by omega,rfl,by rw [kB];simp,by rw [l_];simp,aE⟩ ?_
  rintro q env cZ ⟨j,t4,t5,aT,rfl,c_,rfl,ic,vM,ml⟩;rw [avx];refine bL (λOQ=>?_) (λaru=>?_)
  ·have OQ:j<n:=by omega
   obtain ⟨x,ao⟩:∃ x,X.nodes[j]?=some x:=⟨_,cp (by omega)⟩;have rk:=aI.up j _ (get j x ao);have acB:(hi y)[i] ∈ hi y:=qS aK;have a':(cm (hi y))[i]?=some ((hi y)[i]:Int):=by simp [cm,aK]
   obtain ⟨ft,l2⟩:=Qm acB;have dH:=aI.g6 j _ (get j x ao) _ ft (by omega);rw [WR.2 acB,Bool.and_true] at dH;generalize (hi y)[i]=l at *;have bf:ai w cZ:=a5.new ml;refine VQ (aA.new bf) a' rfl (by simp [cm]) λfD o ab=>⟨_,ab _ (ay.refl _ _),?_⟩
   refine aR (FN (h.new bf) ao (l:=l) (by omega) (by omega) rk.1) ?_;rintro v b2 ⟨rfl,bz⟩;rw [dH];refine a6.bd (Lm b l) ⟨true,rfl,?_⟩;refine g0 (vs:=(Lm b l).cells) rfl (a6.single _) λbT c6 ej cx bH=>?_
   have cg:ai cS c6:=(ml.new bz).new bH;rw [cn (x:=(j:Int)+1) (by omega) (by omega)];have sf:∀ (aT:aH),∃ m,m<n - j/\∃ (EA:Nat) (t4 t5:Bool) (nU:aH),m=n - EA/\EA<=n/\nE ⟨a3,0,none⟩ a (hi y).length cc b (!b) fg.h1 n fg.iJ i (j+1:Nat) aT=nE ⟨a3,0,none⟩ a (hi y).length cc t4 t5 fg.h1 n fg.iJ i EA nU/\t4=(if i=0/\EA=0 then true else b)/\t5=(if i=0/\EA=0 then true else !b)/\ai cS c6:=
    λaT=>⟨n - (j+1),by omega,j+1,b,!b,aT,rfl,by omega,rfl,by rw [if_neg (by omega)],by rw [if_neg (by omega)],cg⟩
   cases b with
   |true=>
    have ca:t4=true:=by rw [ic];split<;>rfl
    subst ca;refine g8 rfl (g8 rfl (yR (by omega) (by omega) ⟨_,cx.cell (i:=2) rfl,g8 rfl ⟨_,cx.cell (i:=1) rfl,?_⟩⟩));cases t5 with
    |true=>exact g8 rfl (g8 rfl (yR (by omega) (by omega) ⟨_,cx.cell (i:=2) rfl,eX rfl (sf _)⟩))
    |false=>exact eX rfl (sf _)
   |false=>
    have c9:t5=true:=by rw [vM];split<;>rfl
    subst c9;cases t4 with
    |true=>exact g8 rfl (g8 rfl (yR (by omega) (by omega) ⟨_,cx.cell (i:=2) rfl,eX rfl (g8 rfl (g8 rfl (yR (by omega) (by omega) ⟨_,cx.cell (i:=2) rfl,g8 rfl ⟨_,cx.cell (i:=1) rfl,sf _⟩⟩)))⟩))
    |false=>exact eX rfl (g8 rfl (g8 rfl (yR (by omega) (by omega) ⟨_,cx.cell (i:=2) rfl,g8 rfl ⟨_,cx.cell (i:=1) rfl,sf _⟩⟩)))
  ·have j1:j=n:=by omega
   subst j1;rw [awI];rw [cn (x:=(i:Int)+1) (by omega) (by omega)];exact ⟨(hi y).length - (i+1),by omega,i+1,t4,t5,_,rfl,by omega,rfl,by rw [ic,if_neg (by omega),if_neg (by omega)],by rw [vM,if_neg (by omega),if_neg (by omega)],ml⟩
 ·rw [awH];have arF:i≠0:=by omega
  rw [if_neg arF] at kB l_;subst kB l_;refine aR (am_ (h.new (a5.new aE)) (n:=n) (lines:=101) aI.apw (ar_.new aE) (by omega)) ?_;rintro v ff ⟨rfl,bH⟩;exact ⟨_,rfl,rfl,(a5.new aE).new bH⟩
end
section
open mA
theorem Mr {α β:Type} {f:α->β} {l:List α} {y:β} (h:l.map f=[y]):∃ x,l=[x]/\f x=y:=by
 cases l with
 |nil=>cases h
 |cons x l=>
  cases l with
  |nil=>exact ⟨x,rfl,by simpa using h⟩
  |cons y l=>simp at h
section
attribute [local irreducible] ib
theorem YU {aS z:av} {b1:Nat} (cM:c4 A aG aS a3 X) (aj:ai aS z) (ak:aS.heap.size<=b1/\b1<z.heap.size) (aJ:dK X.pure) {r:h8} {t:dB conv} (aZ:io (λk=>A k\/k=b1) z r t) (KO:xH t)
  (mi:bW z pa r.cells) (yC:Bd (λk=>A k\/k=b1) z sa (is sch)) (j3:∀ x ∈ sch,gF x) (hm:most<=1000000) {hC:dB conv} (aC:ib X.pure [t] sch [] most=(ew,[hC])) :
  bK 15 [ptr a3,.slice pa 1 pc,.slice sa sch.length sc,.slice none 0 0,.int .i64 most] z λv u=>∃ la lc e1 B f0 eR,v=.slice la 1 lc/\jA A aG aS a3 (λk=>k=b1) u B f0 eR/\eR.pure=ew/\io (λk=>B k\/k=b1) u e1 hC/\(∀ K:bh->Prop,(∀ b o,df u ⟨b,o,none⟩ 0 e1.cells->K ⟨b,o,none⟩)->cb la 1 0 36 K)/\
   u.heap[b1]?=z.heap[b1]?:=by
 have bq:jA A aG aS a3 (λk=>k=b1) z A aG X:=jA.start cM aj λk J=>by subst J;exact ak
 have dw:bW z pa (nj [(r,t)]).flatten:=by simpa [nj] using mi
 have gn:=RN bq.dt aJ (ts:=[(r,t)]) (pc:=pc) dw (λx K0=>by simp at K0;rw [K0];exact ⟨aZ,KO⟩) (by simp) (sch:=sch) (sa:=sa) (sc:=sc) yC j3 (most:=most) hm;have bY:ib X.pure ([(r,t)].map Prod.snd) sch [] most=(ew,[hC]):=aC;rw [bY] at gn;refine aR gn ?_;rintro v u ar;obtain ⟨B',lj,eR,aL,pf,vQ,ek,BA,r7⟩:=bq.op ar;obtain ⟨la,lc,sO,rfl,B_,B4,G0,KT⟩:=vQ;obtain ⟨⟨e1,t2⟩,rfl,bg⟩:=Mr B_;have bg:t2=hC:=bg;subst bg;refine ⟨_,rfl,la,lc,e1,B',lj,eR,rfl,aL,pf,KT (e1,t2) (by simp),λK f'=>?_,r7 b1 rfl⟩;have UN:bW u la (([(e1,t2)]:List (h8×dB conv)).map λx=>x.1.cells).flatten:=B4.rd
 exact hq (cells:=λx:h8×dB conv=>x.1.cells) (λx=>dx.len x.1) (by omega) UN (i:=0) rfl rfl rfl λb o ab _=>f' b o ab
end
def vo (n y:Nat):dB conv:=Sl 0 (LA n y)
theorem akS (aj:1<=n/\n<=3) (az:y<14):rN (lL n y) [] [0] (a9.fresh n 4 101) [vo n y] (a9.fresh n 4 101) uj ⟨8,mn⟩ λ_=>ye 12:=by
 refine ⟨akQ aj az (by omega),.inl rfl,rfl,λk c t ab aZ=>?_⟩;have J:k=0:=by have:=dy ab;simp at this;exact this
 subst J;simp at ab aZ;subst ab aZ;exact .inl ⟨rfl,rfl,rfl,rfl,rfl,λe=>by have:8<=4:=e;omega,λe=>by have:8=6:=e;omega,λe=>by have:8=7:=e;omega,λ_=>⟨rfl,rfl⟩,by show 8<=8/\8≠5;omega⟩
theorem akT:l5 [] (a9.fresh n 4 101) ⟨8,mn⟩ (λ_=>ye 12)=700:=by
 have aN:(a9.fresh n 4 101).bl[0]?=some (ng n 0):=rfl;have aM:mO (ng n 0):=λk l au=>by have au:=dn au;unfold ng r0 at au;simp only at au;obtain ⟨z,aE,rfl⟩:=eQ.1 au;rfl
 have:gR (a9.fresh n 4 101) 0=0:=by unfold gR;rw [aN];exact LD aM
 unfold l5;rw [this];rfl
structure IE (n y:Nat) (sure:Bool) (F G:a9) (A:cd) (g:kt) (gr:Nat->fa):Prop where
 p9:ln (lL n y) [] G A g gr
 AF:kx F G
 kT:dK F
 wt:l5 [] G g gr<=700
 sure:sure=true->nD (lL n y) A
theorem anb {E:Env} {A:cd} {t:ir} (aj:1<=E.n) (h:ln E [] G A g gr) (bq:zB E A g t) (au:3<=t.bD.length):nD E A:=by
 have b3:=h.EO;obtain ⟨awM,awJ⟩:=bq.aQ;unfold iC at b3;by_cases ca:g.aQ<=4
 ·obtain ⟨_,_,_,sJ⟩:=bq.run ca;obtain e | e:g.aQ=3\/g.aQ=4:=by omega
  ·rw [e] at b3;exact b3.1
  ·rw [e] at b3;exact b3.1
 ·obtain e | e | e:g.aQ=6\/g.aQ=7\/g.aQ=8:=by omega
  ·rw [e] at b3;exact b3.1
  ·obtain ⟨_,_,_,_,_,m,_,hm⟩:=bq.ref e;rw [h.op (λc ab=>by cases ab) m] at hm;cases hm
  ·rw [(bq.new e).2] at au;simp at au
theorem aor (aj:1<=n/\n<=3) (az:y<14) (sch:bR) (most:Nat):∃ ll hC,ib (a9.fresh n 4 101) [vo n y] sch [] most=(ll,[hC])/\hC.bad=false/\dK ll/\∃ jr,ll.die 0=(true,jr)/\∃ G A g gr,IE n y (decide ((hC.bD.length:Int)>=3)) jr G A g gr:=by
 have aI:=IT aj az;obtain ⟨G,A,g,gr,aC,_,hw,_⟩:=YP aI (rs:=[]) (λc ab=>by cases ab) (cs:=[0]) (by simp) (akS aj az) sch most;rw [akT] at hw;have BO:dK (ib (a9.fresh n 4 101) [vo n y] sch [] most).1:=dK.ib (dK.fresh (by omega) (by omega) (by omega)) _ _ _ _;generalize cC:ib (a9.fresh n 4 101) [vo n y] sch [] most=R at *;obtain ⟨ll,ts⟩:=R;have au:=aC.len;simp only at aC au BO;obtain ⟨hC,rfl⟩:∃ hC,ts=[hC]:=by
  cases ts with
  |nil=>simp at au
  |cons a l=>
   cases l with
   |nil=>exact ⟨a,rfl⟩
   |cons b l=>simp at au
 rcases aC.j9 0 0 hC rfl rfl with ⟨_,e,bq⟩ | ⟨ab,_⟩
 ·subst e;obtain ⟨jr,eK,fj⟩:=aC.p9.die;refine ⟨ll,hC,rfl,bq.bad,BO,jr,eK,ll,A,g,gr,aC.p9,fj,?_,hw,λaX=>?_⟩
  ·have:=BO.die ((0:Nat):Int);rw [eK] at this;exact this
  ·have aX:=of_decide_eq_true aX;exact anb aI.e.n.1 aC.p9 bq (by omega)
 ·cases ab
theorem Do (aj:1<=n/\n<=3) (az:y<14) {x:bt} (ao:x=⟨fmt 101 n,false⟩):Bu x (hi y)=(hi y).map ql:=by
 obtain ⟨h,_⟩:=QF aj;simp only [Mq,iz,lM,jT,beq_iff_eq] at h;obtain ⟨_,_,_,_,c9⟩:=h;unfold Bu;refine Ij λl au=>?_
 obtain ⟨ft,l2⟩:=Qm au;have g:∀ k,k<8->x.get (l * 8+k)=IS 0 k:=λk J=>by have:=c9 (l - 96) (by omega) k J;rw [show l - 96+96=l by omega] at this;rw [ao];exact this
 have uC:=g 0 (by omega);rw [vp] at uC;unfold Ja bt.g6 ql;simp only;rw [uC,g 1 (by omega),g 2 (by omega),g 3 (by omega),g 4 (by omega),g 5 (by omega),g 6 (by omega),g 7 (by omega)];have e:IH .u64 256 255=256:=by decide
 have bg:IntKind.u64.wrap (0+1)=1:=by decide
 show (⟨(l:Int),IH .u64 256 255,IntKind.u64.wrap (0+1),0,0,0,0,0,0⟩:a6)=_;rw [e,bg]
theorem Z':∀ p ∈ (hi y).map ql,aaC p:=λp ar=>by obtain ⟨l,_,rfl⟩:=eQ.1 ar;refine ⟨⟨by show (0:Int)<=256;omega,by show (256:Int)<_;omega⟩,λx ao=>?_⟩;simp [mZ,ql] at ao;rcases ao with rfl | rfl<;>exact ⟨by omega,by omega⟩
theorem agH (n y:Nat):xH (vo n y):=λ_=>by show ([]:List (List a_)).length<=200;simp
section
attribute [local irreducible] ib
theorem an1 (aj:1<=n/\n<=3) {ee e_:Int} (af:gF ee) (al:gF e_) (yC:bW w sa (is sch)) (j3:∀ x ∈ sch,gF x) :
  bK 13 [.int .i64 n,.int .i64 ee,.int .i64 e_,.slice sa sch.length sc] w λv u=>∃ a3 sure A aG X F G B g gr,v=.tuple #[ptr a3,.bool sure,.bool true]/\qg w u a3 A aG X F/\IE n (ee % 14).toNat sure F G B g gr:=by
 obtain ⟨y,az,u0⟩:∃ y:Nat,(ee % 14).toNat=y/\y<14:=⟨(ee % 14).toNat,rfl,by omega⟩;obtain ⟨ll,hC,gn,ob,yp,jr,aq3,G,B,g,gr,OB⟩:=aor aj u0 sch (e_ % 70).toNat
 rw [az];refine bO Tryz.func13 ?_;rw [azD];refine aR (Zj (n:=n) (c:=4) (lines:=101) (by omega) (by omega) (by omega)) ?_;rintro v ct ⟨a3,A,aG,X,rfl,cM,Eh,fB,q5⟩;refine ⟨_,_,rfl,eX rfl ?_⟩;refine aR (YR af) ?_;rw [az];rintro v cS ⟨mX,cc,rfl,dw,a5⟩;refine ⟨_,_,_,rfl,?_⟩;have asi:∀ (i:Nat) (x:mm),X.nodes[i]?=some x->x.n=⟨fmt 101 n,false⟩:=λi x ao=>by
  have:X.pure.nodes[i]?=some x.n:=by simp [cF.pure,ao]
  rw [q5] at this;exact (WX.1 (dn this)).2
 have v5:X.nodes.length=n:=by
  have:X.pure.nodes.length=n:=by rw [q5];simp [a9.fresh]
  rw [<-this];simp [cF.pure]
 obtain ⟨x,ao⟩:∃ x,X.nodes[0]?=some x:=⟨_,cp (by omega)⟩;have Vc:=asi 0 x ao;have hlen:x.n.words.length=808:=by rw [Vc];obtain ⟨h,_⟩:=QF aj;simp only [Mq,iz,beq_iff_eq] at h;exact h.1
 refine aR (Ya (cM.new a5) (n:=n) (by omega) ao (by rw [Vc]) (L:=hi y) (λl au=>by have:=Qm au;omega) (by have:=(Qe y u0).2;omega) dw 0 1) ?_;rintro v b2 ⟨fg,fw,h0,rfl,bf,aw,cV,KZ⟩;rw [Do aj u0 Vc] at cV;refine dx.bd (p0 0 1 101 fg fw (hi y).length h0) ⟨true,rfl,?_⟩;have jc:=a5.size;have j2:=bf.size;refine g0 (vs:=(p0 0 1 101 fg fw (hi y).length h0).cells) rfl (dx.single _) λb1 ff bA dL bH=>?_
 refine eX rfl ?_;rintro jP KU;have cg:ai ff jP:=by rw [KU];exact eh _
 clear KU;have g3:=dL.lt;refine ⟨λq=>ai jP q,ay.refl _ _,dx.bd (p0 0 1 101 fg fw (hi y).length h0) ⟨λq aM=>cD (ai.an (cg.new aM) dL) rfl,?_⟩⟩;have v3:ai b2 jP:=bH.new cg;have uT:ai w b2:=Eh.new (a5.new bf);have k9:c4 A aG b2 a3 X:=cM.new (a5.new bf);have S2:∀ k,A k->k<ct.heap.size:=λk J=>cM.low k J
 have tail:∀ {z:av} {pa:ax},ai jP z->bW z pa (p0 0 1 101 fg fw (hi y).length h0).cells->bK 15 [ptr a3,.slice pa 1 1,.slice sa sch.length sc,.slice none 0 0,.int .i64 (e_ % 70)] z λv iy=>∃ la lc,v=.slice la 1 lc/\∀ {R5:aV},(∀ e1 q,aF q b1 (dx.cells e1) 45->e1.F_=hC.bD.length->e1.zm=false->(∃ Io Ms ji,jA A aG b2 a3 (λk=>k=b1) q Io Ms ji/\ji.pure=ll)->R5 q)->cb la 1 0 36 λch=>dx.ex λr1=>df iy ch 0 r1.cells/\ha iy ⟨b1,0,none⟩ 0 r1.cells/\∀ q,q=dO iy ⟨b1,0,none⟩ 0 r1.cells->R5 q:=λ{z pa} da mi=>by
  have OU:ai b2 z:=v3.new da;have ps:(hi y).length=((hi y).map ql).length:=by simp
  have cr:=da.size;have yB:=cg.size;have qz:io (λk=>A k\/k=b1) z (p0 0 1 101 fg fw (hi y).length h0) (vo n y):=by
   refine YS ?_ (cV.rd.new OU) ps (by rw [<-ps];have:=(Qe y u0).2;omega) ?_ Z'
   ·exact (aw.mono λk aK J=>J.resolve_right (by omega)).new OU
   ·exact mK cV.rd λk J ed=>by
     have bs:=KZ _ J;have bI:=cV.lt J;rcases ed with ed | ed
     ·have:=S2 _ ed;omega
     ·omega
  have ar9:((e_ % 70).toNat:Int)=e_ % 70:=by omega
  have ij:=YU k9 OU (b1:=b1) ⟨by omega,by omega⟩ (by rw [q5];exact dK.fresh (by omega) (by omega) (by omega)) qz (agH n y) (pc:=1) mi (sch:=sch) (sc:=sc) (sa:=sa) (Y' yC (uT.new OU) λk J=>J.elim (fB k) λe=>(by have:=uT.size;omega)) j3 (most:=(e_ % 70).toNat) (by omega) (by rw [q5];exact gn);rw [ar9] at ij;refine aR ij ?_;rintro v iy ⟨la,lc,e1,B',lj,eR,rfl,bq,JF,lz,J8,hI⟩;refine ⟨_,rfl,la,lc,rfl,λ{R5} f'=>J8 _ λb o ab=>dx.bd e1 ⟨ab,?_⟩⟩;have Py:aF iy b1 (p0 0 1 101 fg fw (hi y).length h0).cells 45:=by exact hI.trans (ai.an (cg.new da) dL)
  refine gL (vs:=e1.cells) Py rfl (dx.single _) λq Ey arR=>?_
  have aqe:=bq.local arR λk e=>e
  exact f' e1 q Ey lz.gB (lz.bad.trans ob) ⟨_,_,_,aqe,JF⟩
 have fin:∀ e1 q,aF q b1 (dx.cells e1) 45->e1.F_=hC.bD.length->e1.zm=false->(∃ Io Ms ji,jA A aG b2 a3 (λk=>k=b1) q Io Ms ji/\ji.pure=ll)->∀ kq,kq=q.drew->∃ o8:aV,o8 kq/\∃ (IK:ax) (RT aiM:Nat),(∀ u,o8 u->u.cell? ⟨b1,23,none⟩=some (.slice IK RT aiM))/\Calls prog 22 #[ptr a3,.int .i64 0] kq λe mx=>∃ afk:Bool,e=.returned (.bool afk)/\o8 mx/\(bif afk then (∃ zm:Bool,(∀ u,o8 u->u.cell? ⟨b1,25,none⟩=some (.bool zm))/\∃ Jv sure A aG X F G B g gr,(.tuple #[ptr a3,.bool (decide ((RT:Int)>=3)),.bool (!zm)]:bx)=.tuple #[ptr Jv,.bool sure,.bool true]/\qg w mx Jv A aG X F/\IE n y sure F G B g gr) else (∃ Jv sure A aG X F G B g gr,(.tuple #[ptr a3,.bool (decide ((RT:Int)>=3)),.bool false]:bx)=.tuple #[ptr Jv,.bool sure,.bool true]/\qg w mx Jv A aG X F/\IE n y sure F G B g gr)):=by
  rintro e1 q Ey jm vU ⟨Io,Ms,ji,bq,BD⟩ vd G9;have nN:ai q vd:=by rw [G9];exact eh _
  clear G9;have Ps:=ai.an nN Ey;have JD:=bq.new nN;refine ⟨λv=>v.heap[b1]?=vd.heap[b1]?,rfl,_,_,_,λu hu=>aF.cell (i:=23) (hu.trans Ps) rfl,?_⟩;have v7:ji.cN.length<=100000000:=by
   have af:=yp.le;have al:ji.cN.length=ll.cN.length:=by rw [<-BD];simp [cF.pure]
   omega
  refine aR (aah JD.dt (by rw [BD];exact yp.du.ok) v7 0) ?_;rintro v afP ⟨rfl,ar⟩;rw [BD,aq3] at ar ⊢;obtain ⟨Ip,aCT,s6,r8,Ol,_,_,_,zR⟩:=JD.op ar;refine ⟨_,rfl,zR b1 rfl,g8 rfl ⟨_,λu hu=>aF.cell (i:=25) (hu.trans Ps) rfl,a3,_,_,_,_,jr,G,B,g,gr,?_,⟨r8.dt,Ol,r8.oT k9 uT fB,r8.owns k9 uT fB⟩,OB⟩⟩;rw [jm,vU];rfl
 refine ⟨?_,?_⟩
 ·rintro aP mU cv ri;obtain ⟨fQ,dg⟩:=b4 cv ri;clear ri;refine ⟨dg,?_⟩;refine aR (FV _ _ _ al (by omega)) ?_;rintro v u8 ⟨rfl,UW⟩;obtain rfl:mU=u8:=UW.symm;rw [if_neg (by omega)];refine ⟨_,rfl,dg,?_⟩;refine aR (tail dg (jk fQ (by simp))) ?_;rintro v iy ⟨la,lc,rfl,J8⟩;refine ⟨_,_,_,rfl,J8 λe1 q Ey jm vU hy=>?_⟩;exact fin e1 q Ey jm vU hy
 ·refine aR (FV _ _ _ al (by omega)) ?_;rintro v u8 ⟨rfl,UW⟩;obtain rfl:jP=u8:=UW.symm;rw [if_neg (by omega)];refine ⟨_,rfl,ay.refl _ _,?_⟩;rintro aP mU cv ri;obtain ⟨fQ,dg⟩:=b4 cv ri;clear ri;refine aR (tail dg (jk fQ (by simp))) ?_;rintro v iy ⟨la,lc,rfl,J8⟩;refine ⟨_,_,_,rfl,J8 λe1 q Ey jm vU hy=>?_⟩;exact fin e1 q Ey jm vU hy
end
end
section
open mA
def Di (n y:Nat) (rs:eI) (ts:List ir) (sure:Bool) (F:a9) (m:Nat):Prop:=
 ∃ G A g gr,rN (lL n y) rs rs F ts G A g gr/\l5 rs G g gr<=m/\dK F/\(sure=true->nD (lL n y) A)
theorem aiq (aj:1<=n/\n<=3) (az:y<14) (gS:∀ c ∈ rs,1<=c/\c<4) {sure:Bool}:aaB (Di n y rs ts sure):=λF m ⟨G,A,g,gr,aC,hw,aJ,aX⟩=>by refine ⟨aJ,λx ao=>?_⟩;obtain ⟨ew,gg,A',cU,ie,e,eK,fj,fL⟩:=am6 (IT aj az) (λc ab=>by have:=gS c ab;omega) aC ao;refine ⟨ew,l5 rs gg cU ie,e,by omega,gg,A',cU,ie,eK,eJ _,?_,λh=>fL.am (aX h)⟩;have:=aJ.step x;rw [e] at this;exact this
def ua (n c:Nat):ir:=aaA c ⟨(c:Int),1,101,rD n,0,2,0⟩
theorem YV {f:Nat->Nat} {k:Nat}:∀ {l:eI},(∀ c ∈ l,f c=k)->(l.map f).sum=l.length * k
 | [],_=>by simp
 |a::l,h=>by rw [kQ,qR,h a iA,YV λc ab=>h c (jz _ ab),l8,nz];omega
theorem GE {sure:Bool} {A:cd} (h:IE n y sure F G A g gr) (gS:∀ c ∈ rs,1<=c/\c<4):Di n y rs (rs.map (ua n)) sure F (700+rs.length * 1680):=by
 have c_:=h.p9.join gS;refine ⟨G,A,g,_,⟨c_,h.AF,by simp,λk c t ab aZ=>?_⟩,?_,h.kT,h.sure⟩
 ·rw [gV,ab] at aZ;cases aZ;exact .inr ⟨dn ab,rfl,rfl,rfl,λe=>by have:12<=9:=e;omega,λe=>by have:12=10:=e;omega,λe=>by have:12=11:=e;omega,λ_=>⟨rfl,rfl⟩⟩
 ·have aN:=h.wt;have bY:(rs.map λc=>gR G c+lI ((λ_=>ye 12) c).aQ).sum=rs.length * 1680:=YV λc ab=>by
   obtain ⟨C,b0,_,_,q⟩:=c_.EY c ab;have:gR G c=0:=by unfold gR;rw [b0];exact LD (q (by show 10<=12;omega)).2
   show gR G c+1680=1680;omega
  have bg:l5 [] G g gr=gR G 0+AE g.aQ:=by unfold l5;simp
  unfold l5;rw [bY];omega
theorem air (aj:1<=n/\n<=3) (az:y<14) (gS:∀ c ∈ rs,1<=c/\c<4) (ra:rs.Nodup) {sure:Bool} (h:Di n y rs ts sure F m) (sch:bR) (hm:m<most) :
  Di n y rs (ib F ts sch [] most).2 sure (ib F ts sch [] most).1 m/\C1 (ib F ts sch [] most).2:=by
 obtain ⟨G,A,g,gr,aC,hw,aJ,aX⟩:=h;obtain ⟨gg,A',cU,ie,eK,fj,fL,g5⟩:=YP (IT aj az) (λc ab=>by have:=gS c ab;omega) ra aC sch most;exact ⟨⟨gg,A',cU,ie,eK,by omega,dK.ib aJ _ _ _ _,λh=>fj.am (aX h)⟩,g5 (by omega)⟩
def Nr (n y:Nat) (sure:Bool) (F:a9) (t:ir):Prop:=
 ∃ (b:Bool) (v s q:Int),C_ n y b F.nodes/\(sure=true->b=true)/\t.out=.inr ⟨0,v,s,q,0⟩/\(v=2↔b=true)/\(b=true->q=2)/\t.bD.length<=9
theorem Fn (aj:1<=n/\n<=3) (az:y<14) (gS:∀ c ∈ rs,1<=c/\c<4) {sure:Bool} (h:Di n y rs ts sure F m) (aq:C1 ts) :
  (∀ t ∈ ts,t.bad=false/\(Nr n y sure F t\/∃ w,t.out=.inr ⟨3,0,0,0,w⟩))/\(rs≠[]->∃ t ∈ ts,Nr n y sure F t)/\(rs.length=1->∀ t ∈ ts,Nr n y sure F t):=by
 obtain ⟨G,A,g,gr,aC,_,aJ,aX⟩:=h;have aI:=IT aj az;have ez:∀ {c:Nat},c ∈ rs->∃ t,t ∈ ts/\vy (lL n y) c (gr c) t:=λ{c} ab=>by
  obtain ⟨k,J⟩:=hn.1 ab;obtain ⟨t,aZ⟩:∃ t,ts[k]?=some t:=⟨_,cp (by rw [aC.len];exact dy J)⟩;rcases aC.j9 k c t J aZ with ⟨e,_⟩ | ⟨_,bq⟩
  ·have:=gS c ab;omega
  ·exact ⟨t,dn aZ,bq⟩
 have B9:∀ {t:ir},t ∈ ts->∃ c,c ∈ rs/\vy (lL n y) c (gr c) t:=λ{t} aZ=>by
  obtain ⟨k,J⟩:=hn.1 aZ;obtain ⟨c,ab⟩:∃ c,rs[k]?=some c:=⟨_,cp (by rw [<-aC.len];exact dy J)⟩;rcases aC.j9 k c t ab J with ⟨e,_⟩ | h
  ·have:=gS c (dn ab);omega
  ·exact ⟨c,h⟩
 have oh:∀ {c:Nat} {t:ir},c ∈ rs->t ∈ ts->vy (lL n y) c (gr c) t->(gr c).aQ=10\/(gr c).aQ=11:=λ{c t} ab aZ bq=>by
  have Jw:=(aC.p9.wI c ab).2.2.2;have G4:=aq t aZ;by_cases h4:(gr c).aQ<=9
  ·rw [(bq.run h4).1] at G4;cases G4
  ·by_cases vK:(gr c).aQ=12
   ·rw [(bq.new vK).1] at G4;cases G4
   ·omega
 have Pe:∀ {c:Nat} {t:ir},c ∈ rs->vy (lL n y) c (gr c) t->(gr c).aQ=10->Nr n y sure F t:=λ{c t} ab bq e=>by
  obtain ⟨ok,_⟩:=aC.p9.wI c ab;unfold ef at ok;rw [e] at ok;obtain ⟨mo,mq⟩:=ok;obtain ⟨_,f2,f3⟩:=bq.fin e;have jb:=aC.AF.nodes;rcases mq with ⟨nm,hr,ry⟩ | ⟨nm,hr⟩
  ·exact ⟨true,_,_,_,by rw [jb];exact Z7 aj az aC.p9.rep aC.p9.law mo (b:=true) nm,λ_=>rfl,f2,⟨λ_=>rfl,λ_=>hr⟩,λ_=>ry,f3⟩
  ·refine ⟨false,_,_,_,by rw [jb];exact Z7 aj az aC.p9.rep aC.p9.law mo (b:=false) nm,λh=>?_,f2,⟨λe=>absurd e hr,(λe=>nomatch e)⟩,(λe=>nomatch e),f3⟩;have af:=aX h 0 (by have:=aI.e.n;omega);rw [nm.2.1 0 (by have:=aI.e.n;omega)] at af;cases af
 have adK:∀ {c:Nat},c ∈ rs->(gr c).aQ=11->∃ c' ∈ rs,c'≠c/\(gr c').aQ=10:=λ{c} ab e=>by
  obtain ⟨ok,_⟩:=aC.p9.wI c ab;unfold ef at ok;rw [e] at ok;obtain ⟨c',iU,lG,p3⟩:=ok;obtain ⟨hC,lz,q4⟩:=ez iU;refine ⟨c',iU,lG,?_⟩;rcases oh iU lz q4 with jj | jj
  ·exact jj
  ·rcases p3 with ⟨bg,_⟩ | ⟨_,bg⟩<;>omega
 refine ⟨λt aZ=>?_,λcj=>?_,λaf t aZ=>?_⟩
 ·obtain ⟨c,ab,bq⟩:=B9 aZ;refine ⟨bq.bad,?_⟩;rcases oh ab aZ bq with e | e
  ·exact .inl (Pe ab bq e)
  ·exact .inr (bq.busy e).2
 ·obtain ⟨c,l,e⟩:=Fz cj;have ab:c ∈ rs:=by rw [e];exact iA
  obtain ⟨t,aZ,bq⟩:=ez ab;rcases oh ab aZ bq with e | e
  ·exact ⟨t,aZ,Pe ab bq e⟩
  ·obtain ⟨c',iU,_,p3⟩:=adK ab e;obtain ⟨hC,lz,q4⟩:=ez iU;exact ⟨hC,lz,Pe iU q4 p3⟩
 ·obtain ⟨c,ab,bq⟩:=B9 aZ;rcases oh ab aZ bq with e | e
  ·exact Pe ab bq e
  ·obtain ⟨c',iU,lG,_⟩:=adK ab e;obtain ⟨a,rfl⟩:=Ih.1 af;simp at iU ab;exact absurd (iU.trans ab.symm) lG
end
end Go.Proofs.YtmkljjbioomepaaGreat
