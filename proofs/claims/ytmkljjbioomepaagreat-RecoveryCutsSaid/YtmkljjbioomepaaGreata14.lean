import Derived.Test.YtmkljjbioomepaaGreata13
import Derived.Test.YtmkljjbioomepaaGreata04
set_option linter.all false
set_option maxHeartbeats 4000000
set_option maxRecDepth 100000
namespace Go.Proofs.YtmkljjbioomepaaGreat
open Go.Proofs.Tryz Go.b8
variable {A:bB} {X:cF} {a inc p v x:Int} {c:dC} {a3 i k n:Nat} {u w w':av} {aG:Nat->Tag}
section
theorem HV (h:a7 none k):False:=by obtain ⟨o,aq⟩:=h;cases aq
def HA (i:Nat) (inc:Int) (j:Nat):eM:=⟨⟨i,inc,j,[],0,[]⟩,[]⟩
def r0 (n i:Nat) (inc:Int):List eM:=(List.range n).map (HA i inc)
def oZ (pb i:Nat) (inc:Int) (j:Nat):fF:=⟨pb,⟨i,inc,j,[],[],none,0,0,[],none,0⟩,[],none,0⟩
theorem ah6 (pb i:Nat) (inc:Int) (j:Nat):(oZ pb i inc j).pure=HA i inc j:=rfl
def a9.connect (F:a9) (i:Nat) (C:cT) (inc:Int):a9:=F.jy i { C with alive:=true,inc:=inc,aU:=r0 F.nodes.length i inc }
theorem ahi (a b:List fF):(l0 (a++b)).flatten=(l0 a).flatten++(l0 b).flatten:=by simp [l0]
open Classical in
theorem c4.aoU (h:c4 A aG w a3 X) {pb:Nat} (ab:X.bl[i]?=some c) {la:ax} {lc:Nat}
  (J:ay (λk=>aG k=.aU i\/aG k=.bl) w w') (El:w.heap.size<=pb) (oM:∀ k,a7 la k->aG k=.aU i\/w.heap.size<=k) (cj:¬ a7 la pb)
  (rh:∀ M:bB,M pb->gy M w' pb (oZ pb i inc c.aU.length).p) (cV:bu w' uq 2 la (c.aU++[oZ pb i inc c.aU.length]).length lc (l0 (c.aU++[oZ pb i inc c.aU.length])).flatten)
  (ak:aF w' X.bo (jL (X.bl.set i { c with aU:=c.aU++[oZ pb i inc c.aU.length],la:=la,lc:=lc })).flatten qY) :
  ∃ A' χ',Next A A' aG χ' w w'/\c4 A' χ' w' a3 { X with bl:=X.bl.set i { c with aU:=c.aU++[oZ pb i inc c.aU.length],la:=la,lc:=lc } }:=by
 let χ':Nat->Tag:=λk=>if k=pb then .lane i c.aU.length else if a7 la k then .aU i else aG k
 have t1:χ' pb=.lane i c.aU.length:=if_pos rfl;have t2:∀ k,a7 la k->χ' k=.aU i:=λk J=>by show (if k=pb then Tag.lane i c.aU.length else if a7 la k then .aU i else aG k)=_;rw [if_neg (λe:k=pb=>cj (e▸J)),if_pos J]
 have t3:∀ k,k≠pb->¬ a7 la k->χ' k=aG k:=λk af al=>by show (if k=pb then Tag.lane i c.aU.length else if a7 la k then .aU i else aG k)=_;rw [if_neg af,if_neg al]
 have aX:∀ k,k<w.heap.size->χ' k=aG k:=by
  intro k aK;by_cases ak:a7 la k
  ·rcases oM k ak with e | e
   ·rw [t2 k ak,e]
   ·omega
  ·exact t3 k (by omega) ak
 have a':∀ k,k<w.heap.size->χ' k≠.dR->aG k≠.dR:=λk aK ab=>by rw [aX k aK] at ab;exact ab
 obtain ⟨m,_⟩:=h.move (T:=λt=>t=.aU i\/t=.bl) (χ':=χ') J (by simp) a' (λk aK _ _=>aX k aK);have fc:=h.bw i c ab;have mi:=rh (k0 A aG χ' w) (.inl (by rw [t1];simp));have lG:∀ k,χ' k≠.dR->k<w'.heap.size:=λk ab=>by
  by_cases Ki:k=pb
  ·rw [Ki];exact mi.an.lt
  ·by_cases ak:a7 la k
   ·exact cV.lt ak
   ·rw [t3 k Ki ak] at ab;exact ks (h.qB ab) J.size
 have iU:sE (k0 A aG χ' w) χ' w' i { c with aU:=c.aU++[oZ pb i inc c.aU.length],la:=la,lc:=lc }:=by
  refine ⟨cV,t2,λj l au=>?_,fc.none,λb ak=>aF.eF m (fc.batch b ak).1 (fc.batch b ak).2 (by simp) (by simp),fc.ds.aO m.Hh m.old⟩;have hl:(c.aU++[oZ pb i inc c.aU.length])[j]?=some l:=au;rw [CY] at hl;split at hl
  ·exact (fc.lane j l hl).eF m (by simp) (by simp)
  ·rename_i c_;rw [List.getElem?_singleton] at hl;split at hl
   ·rename_i OH;have J':j=c.aU.length:=by omega
    simp only [iX] at hl;subst hl;subst J';refine ⟨mi,?_,bu.nil _ _ _,λk ⟨o,aq⟩=>by cases aq⟩;rintro k (J | ⟨o,aq⟩ | ⟨o,aq⟩)
    ·rw [J];exact t1
    ·cases aq
    ·cases aq
   ·cases hl
 obtain ⟨ba,cM⟩:=h.E2 (χ':=χ') ab (J.mono λk _ e=>e.elim (λe=>.inr (by rw [e];rfl)) .inl) a' (λk aK _ _=>aX k aK) lG (by rw [Hz];exact ak) (by rw [aX _ h.cls.lt];exact h.i_) iU;exact ⟨_,_,ba,cM⟩
theorem c4.setRow (h:c4 A aG w a3 X) {c':dC} (ab:X.bl[i]?=some c) (J:ay (λk=>aG k=.bl) w w') (ak:aF w' X.bo (jL (X.bl.set i c')).flatten qY)
  (kd:∀ A' w',sE A' aG w' i c->sE A' aG w' i c'):∃ A',Next A A' aG aG w w'/\c4 A' aG w' a3 { X with bl:=X.bl.set i c' }:=by
 obtain ⟨m,_⟩:=h.move (χ':=aG) (T:=λt=>t=.bl) J (by simp) (λ_ _ h=>h) (λ_ _ _ _=>rfl);have fc:=(h.bw i c ab).eF m (λt aZ e=>by rw [e] at aZ;exact aZ);obtain ⟨EN,cM⟩:=h.E2 (χ':=aG) (c':=c') ab (J.mono λk _ e=>.inl e) (λ_ _ h=>h) (λ_ _ _ _=>rfl) (λk ab=>ks (h.qB ab) J.size) (by rw [Hz];exact ak) h.i_ (kd _ _ fc);exact ⟨_,EN,cM⟩
theorem ajf (h:c4 A aG w a3 X) (aj:X.nodes.length<=5) (ab:X.bl[i]?=some c) (aDS:X.bl.length<=6) (acm:0<=inc/\inc<=59) :
  bK 53 [ptr a3,.int .i64 i,.int .i64 inc] w λv w'=>v=.tuple #[]/\gQ A aG w a3 (X.pure.connect i c.pure inc) w' λ_=>True:=by
 refine bO Tryz.func53 ?_;rw [ptr,axm];have g2:=dy ab;refine ⟨_,_,_,h.dt.cell (i:=2) rfl,hc (by omega) (by omega) ?_⟩;rw [j_];refine ⟨⟨_,h.n_ (k:=0) ab rfl⟩,h.cls.frozen,?_⟩;intro w1 br;obtain ⟨Oy,JV⟩:=tI (k:=0) (c':={ c with alive:=true }) h.cls ab (by omega) (v:=.bool true) (by simp [dC.cells]);have G':w1=w.setCell ⟨X.bo,0+i * 7+0,none⟩ (.bool true):=br;rw [<-G'] at Oy;have hk:ay (λz=>z=X.bo) w w1:=by rw [G'];exact iu _ _ _ _
 clear br G';refine ⟨⟨_,tU (k:=1) Oy JV rfl⟩,Oy.frozen,?_⟩;intro aS cG;obtain ⟨z0,zY⟩:=tI (k:=1) (c':={ c with alive:=true,inc:=inc }) Oy JV (by omega) (v:=.int .i64 inc) (by simp [dC.cells]);rw [<-cG] at z0;have eN:ay (λz=>z=X.bo) w1 aS:=by rw [cG];exact iu _ _ _ _
 clear cG;refine ⟨⟨_,tU (k:=2) z0 zY rfl⟩,z0.frozen,?_⟩;intro aY dY;obtain ⟨se,zZ⟩:=tI (k:=2) (c':={ c with alive:=true,inc:=inc,aU:=[],la:=none,lc:=0 }) z0 zY (by omega) (v:=.slice none 0 0) (by simp [dC.cells]);rw [<-dY] at se;have ek:ay (λz=>z=X.bo) aS aY:=by rw [dY];exact iu _ _ _ _
 clear dY;rw [pJ,pJ] at se;have D6:ay (λz=>aG z=.bl) w aY:=((hk.trans eN λ_ _ h=>h).trans ek λ_ _ h=>h).mono λz _ e=>by rw [e];exact h.i_
 obtain ⟨Mt,Vy,k9⟩:=h.setRow (c':={ c with alive:=true,inc:=inc,aU:=[],la:=none,lc:=0 }) ab D6 se (λA' w' H=>⟨bu.nil _ _ _,(λk J=>(HV J).elim),(λj l au=>by simp at au),H.none,H.batch,H.ds⟩);refine ⟨_,_,_,k9.dt.cell (i:=1) rfl,?_⟩;show dT _ _ (Jm i inc ⟨X.bo,0+i * 7,none⟩ X.nodes.length 0 _) _ _;refine e2 mix (λm env u=>∃ (k:Nat) (aT:aH) (A':bB) (χ':Nat->Tag) (ls:List fF) (la:ax) (lc:Nat),k<=X.nodes.length/\m=X.nodes.length - k/\env=Jm i inc ⟨X.bo,0+i * 7,none⟩ X.nodes.length k aT/\
   Next A A' aG χ' w u/\c4 A' χ' u a3 { X with bl:=X.bl.set i { c with alive:=true,inc:=inc,aU:=ls,la:=la,lc:=lc } }/\ls.length=k/\ls.map fF.pure=r0 k i inc) X.nodes.length
  ⟨0,_,Mt,aG,[],none,0,by omega,by omega,rfl,Vy,k9,rfl,rfl⟩ ?_
 rintro m env u ⟨k,aT,A',χ',ls,la,lc,J,rfl,rfl,ba,cM,kg,Kn⟩;rw [auZ];refine bL (λaK=>?_) (λaK=>?_)
 ·have nL:k<X.nodes.length:=by omega
  have pO:(X.bl.set i { c with alive:=true,inc:=inc,aU:=ls,la:=la,lc:=lc })[i]?=some { c with alive:=true,inc:=inc,aU:=ls,la:=la,lc:=lc }:=by simp [g2]
  refine aR (amI (w:=u) (c:=i) (i:=inc) (n:=k) (by omega) acm (by omega)) ?_;rintro v bZ ⟨rfl,rh,bz,pq⟩;have tf:=cM.new bz;refine ⟨_,_,rfl,_,_,_,tf.n_ (k:=2) pO rfl,?_⟩;rintro jB cK ih eO;obtain ⟨dL,bH⟩:=b4 ih eO;have nQ:cK.heap.size=bZ.heap.size+1:=by rw [eO];simp
  clear eO;have r6:=tf.new bH;have uJ:=r6.bw i _ pO;obtain ⟨wX,yE,pv,cr,gm⟩:=j5 (T:=105) (z:=.agg #[.pointer none,.slice none 0 0]) (n:=2) (m:=32) (by kernel_rfl);have Ab:bu cK uq wX.size la ls.length lc (l0 ls).flatten:=by rw [cr];exact uJ.own
  obtain ⟨ap,fU,dh,fV,Ek,eu,fC⟩:=Ab.append (P:=prog) (t:=99) (ty:=99) Tryz.underlying99 yE pv (by rw [cr];rfl) (by omega)
   (s:=some ⟨jB,0,none⟩) (m:=1) (c:=1) (news:=(oZ u.heap.size i inc k).cells) (by rw [cr];rfl) (jk dL (by simp [fF.cells,oZ])) (by simp [fF.cells,single]) (by omega) (by rw [gm];omega)
  rw [cr] at Ek;have Kh:ay (λz=>χ' z=.aU i) cK dh:=eu.mono λz _ aE=>uJ.tag z aE
  have D0:aF dh X.bo (jL (X.bl.set i { c with alive:=true,inc:=inc,aU:=ls,la:=la,lc:=lc })).flatten qY:=Kh.an r6.cls (by have:=r6.i_;rw [show χ' X.bo=.bl from this];simp);refine ⟨ap,_,fU,dh,fV,⟨_,tU (k:=2) D0 pO rfl⟩,D0.frozen,?_⟩;intro cR kj;obtain ⟨Tx,aDI⟩:=tI (k:=2) (c':={ c with alive:=true,inc:=inc,aU:=ls++[oZ u.heap.size i inc ls.length],la:=ap,lc:=fU }) D0 pO (by omega) (v:=.slice ap (ls.length+1) fU) (by simp [dC.cells]);have Hc:cR=dh.setCell ⟨X.bo,0+i * 7+2,none⟩ (.slice ap (ls.length+1) fU):=kj;rw [<-Hc] at Tx;have eD:ay (λz=>z=X.bo) dh cR:=by rw [Hc];exact iu _ _ _ _
  clear kj Hc;have GX:ai u cK:=bz.new bH;have abX:χ' X.bo=.bl:=cM.i_;have z5:ay (λz=>χ' z=.aU i\/χ' z=.bl) u cR:=((ay.db GX).trans Kh λz _ e=>.inl e).trans eD λz _ e=>.inr (by rw [e];exact abX)
  have oe:∀ z,a7 la z->z<u.heap.size:=λz aE=>(cM.bw i _ pO).own.lt aE
  have vR:∀ z,a7 ap z->χ' z=.aU i\/cK.heap.size<=z:=by
   intro z aE;rcases fC with e | e
   ·exact .inl (uJ.tag z (e▸aE))
   ·obtain ⟨o,aq⟩:=aE;rw [e] at aq;simp at aq;exact .inr (by omega)
  have aDG:X.bo<u.heap.size:=cM.cls.lt;have qv:¬ a7 ap u.heap.size:=λak=>by
   rcases fC with e | e
   ·have:=oe _ (e▸ak);omega
   ·obtain ⟨o,aq⟩:=ak;rw [e] at aq;simp at aq<;>omega
  have asD:∀ M:bB,M u.heap.size->gy M cR u.heap.size (oZ u.heap.size i inc ls.length).p:=by
   intro M c1;have oO:gy (λk=>M k\/a7 la k\/k=X.bo) bZ u.heap.size (oZ u.heap.size i inc ls.length).p:=by have:=rh (λk=>M k\/a7 la k\/k=X.bo) (.inl c1);rw [kg];exact this
   have Ua:∀ z,(oZ u.heap.size i inc ls.length).p.mut u.heap.size z->z=u.heap.size:=by
    rintro z (aE | ⟨o,aq⟩ | ⟨o,aq⟩)
    ·exact aE
    ·cases aq
    ·cases aq
   have asB:=((oO.new bH).aO eu (λz aE ak=>by rw [Ua z aE] at ak;have:=oe _ ak;omega) (λz ak=>.inr (.inl ak))).aO eD (λz aE e=>by have:=Ua z aE;omega) (λz e=>.inr (.inr e));exact asB.wP (λz _ aE=>.inl aE) (λz aE=>by rw [Ua z aE];exact c1)
  have nP:bu cR uq 2 ap (ls++[oZ u.heap.size i inc ls.length]).length fU (l0 (ls++[oZ u.heap.size i inc ls.length])).flatten:=by
   rw [ahi,gp];have e:(l0 [oZ u.heap.size i inc ls.length]).flatten=(oZ u.heap.size i inc k).cells:=by rw [kg];rfl
   rw [e];refine Ek.aO eD λz aE e=>?_
   rcases vR z aE with jj | jj
   ·rw [e,abX] at jj;cases jj
   ·have:=GX.size;omega
  rw [pJ] at Tx;obtain ⟨Rb,W0,Vz,qq⟩:=cM.aoU (pb:=u.heap.size) (inc:=inc) (la:=ap) (lc:=fU) pO z5 (eJ _) (λz aE=>(vR z aE).imp id λe=>by have:=GX.size;omega) qv asD nP (by rw [pJ];exact Tx);rw [pJ] at qq;rw [show IntKind.i64.wrap ((k:Int)+1)=((k+1:Nat):Int) by rw [cn (by omega) (by omega)];rfl];refine ⟨X.nodes.length - (k+1),by omega,k+1,_,Rb,W0,ls++[oZ u.heap.size i inc ls.length],ap,fU,by omega,rfl,rfl,ba.trans Vz,qq,by simp [kg],?_⟩;rw [pB,Kn,kg];simp [r0,rK,ah6]
 ·have Kj:k=X.nodes.length:=by omega
  subst Kj;refine ⟨rfl,A',χ',_,ba,cM,?_,trivial⟩;refine (cF.Qk X i _).trans ?_;simp [a9.connect,dC.pure,Kn,cF.pure]
open Classical in
theorem c4.addNode (h:c4 A aG w a3 X) {y:mm} {na:ax} {nc:Nat}
  (J:ay (λk=>aG k=.nodes\/aG k=.dt) w w') (az:gY w' y.b y.a4 y.n) (bA:w.heap.size<=y.b) (cv:w.heap.size<=y.a4) (Kw:∀ k,a7 na k->aG k=.nodes\/w.heap.size<=k) (Ui:¬ a7 na y.b) (asf:¬ a7 na y.a4)
  (cV:bu w' Sn 1 na (X.nodes++[y]).length nc ((X.nodes++[y]).map λx=>ptr x.b)) (aJ:aF w' a3 (X.cells.set 1 (.slice na (X.nodes++[y]).length nc)) uo) :
  ∃ A' χ',Next A A' aG χ' w w'/\c4 A' χ' w' a3 { X with nodes:=X.nodes++[y],na:=na,nc:=nc }:=by
 have hI:=az.ne;let χ':Nat->Tag:=λk=>if k=y.b then .node X.nodes.length else if k=y.a4 then .word X.nodes.length else if a7 na k then .nodes else aG k
 have t1:χ' y.b=.node X.nodes.length:=if_pos rfl;have ayB:χ' y.a4=.word X.nodes.length:=by show (if y.a4=y.b then Tag.node X.nodes.length else if y.a4=y.a4 then .word X.nodes.length else if a7 na y.a4 then .nodes else aG y.a4)=_;rw [if_neg (λe=>hI e.symm),if_pos rfl]
 have t2:∀ k,a7 na k->χ' k=.nodes:=λk J=>by show (if k=y.b then Tag.node X.nodes.length else if k=y.a4 then .word X.nodes.length else if a7 na k then .nodes else aG k)=_;rw [if_neg (λe:k=y.b=>Ui (e▸J)),if_neg (λe:k=y.a4=>asf (e▸J)),if_pos J]
 have t3:∀ k,k≠y.b->k≠y.a4->¬ a7 na k->χ' k=aG k:=λk af al aL=>by show (if k=y.b then Tag.node X.nodes.length else if k=y.a4 then .word X.nodes.length else if a7 na k then .nodes else aG k)=_;rw [if_neg af,if_neg al,if_neg aL]
 have aX:∀ k,k<w.heap.size->χ' k=aG k:=by
  intro k aK;by_cases ak:a7 na k
  ·rcases Kw k ak with e | e
   ·rw [t2 k ak,e]
   ·omega
  ·exact t3 k (by omega) (by omega) ak
 have a':∀ k,k<w.heap.size->χ' k≠.dR->aG k≠.dR:=λk aK ab=>by rw [aX k aK] at ab;exact ab
 obtain ⟨m,ba⟩:=h.move (T:=λt=>t=.nodes\/t=.dt) (χ':=χ') J (by simp) a' (λk aK _ _=>aX k aK);have f3:=bu.eF m h.km h.rv (by simp) (by simp);have f4:=aF.eF m h.cls h.i_ (by simp) (by simp);refine ⟨_,χ',ba,m.vD,λk ab=>?_,?_,?_,cV,t2,λq z aE=>?_,f4.1,f4.2,λq z aE=>(h.bw q z aE).eF m λt af al=>?_,f3.1,f3.2,λx ao=>gy.eF m (h.hB x ao).1 (h.hB x ao).2 (by simp) (by simp),h.nodup⟩
 ·rcases ab with ab | ab
  ·by_cases bY:k=y.b
   ·rw [bY];exact az.node.lt
   ·by_cases bg:k=y.a4
    ·rw [bg];exact az.words.lt
    ·by_cases ak:a7 na k
     ·exact cV.lt ak
     ·rw [t3 k bY bg ak] at ab;exact ks (h.qB ab) J.size
  ·exact ks ab.1 J.size
 ·simpa [cF.cells] using aJ
 ·rw [aX _ h.dt.lt];exact h.lu
 ·have ml:(X.nodes++[y])[q]?=some z:=aE;rw [CY] at ml;split at ml
  ·exact (h.node q z ml).eF m (by simp) (by simp)
  ·rename_i c_;rw [List.getElem?_singleton] at ml;split at ml
   ·rename_i OH;have J':q=X.nodes.length:=by omega
    simp only [iX] at ml;subst ml;subst J';exact ⟨az,t1,ayB⟩
   ·cases ml
 ·rcases al with e | e<;>(rw [e] at af;cases af)
def xF:dC:=⟨false,0,[],none,0,none,[],[],0,0,0⟩
def HO (lines:Nat):bt:=⟨List.replicate (8 * lines) 0,false⟩
def ng (n i:Nat):cT:=⟨true,1,r0 n i 1,none,0,0,0⟩
def a9.init (n c lines:Nat):a9:=⟨lines,List.replicate n (HO lines),(List.range c).map (ng n),[]⟩
theorem ajg (n:Nat):p8 n [.bool false,.int .i64 0,.slice none 0 0,.slice none 0 0,.int .i64 0,.int .i64 0,.int .i64 0]=(jL (List.replicate n xF)).flatten:=by
 induction n with
 |zero=>rfl
 |succ n c5=>rw [Fw,jL,kQ,l7,<-jL,<-c5];rfl
theorem akD {c:Nat} (J:k<c):((List.range k).map (ng n)++List.replicate (c - k) xF.pure).set k (ng n k)=(List.range (k+1)).map (ng n)++List.replicate (c - (k+1)) xF.pure:=by obtain ⟨d,rfl⟩:∃ d,c=k+1+d:=⟨c - (k+1),by omega⟩;rw [show k+1+d - k=d+1 by omega,show k+1+d - (k+1)=d by omega,Fw,WO _ _ (by simp)];simp [rK]
open Classical in
theorem amN {c lines:Nat} (aj:1<=n/\n<=5) (ab:1<=c/\c<=6) (au:1<=lines/\lines<=256):bK 46 [.int .i64 n,.int .i64 c,.int .i64 lines] w λv w'=>
  ∃ a3 A aG X,v=.tuple #[ptr a3,.int .i64 0]/\c4 A aG w' a3 X/\ai w w'/\(∀ k,A k->w.heap.size<=k)/\X.pure=a9.init n c lines:=by
 refine bO Tryz.func46 ?_;rw [ag7];refine bL (λh=>by omega) (λ_=>bL (λh=>by omega) (λ_=>bL (λh=>by omega) (λ_=>bL (λh=>by omega) (λ_=>bL (λh=>by omega) (λ_=>bL (λh=>by omega) (λ_=>?_))))))
 refine ⟨by omega,by omega,by omega,by omega,?_⟩;rintro bo w1 JT br;rw [j_,ajg] at br;obtain ⟨bA,a1⟩:=b4 JT br;have fI:w1.heap.size=w.heap.size+1:=by rw [br];simp
 clear br;rintro a3 aS yq cG;obtain ⟨cv,a5⟩:=b4 yq cG;have jc:aS.heap.size=w1.heap.size+1:=by rw [cG];simp
 clear cG;let rS:cF:=⟨lines,[],none,0,bo,List.replicate c xF,[],none,0⟩;let zk:Nat->Tag:=λk=>if k=a3 then .dt else if k=bo then .bl else .dR
 have t1:zk a3=.dt:=if_pos rfl;have t2:zk bo=.bl:=by show (if bo=a3 then Tag.dt else if bo=bo then .bl else .dR)=_;rw [if_neg (by omega),if_pos rfl]
 have t3:∀ k,zk k≠.dR->k=a3\/k=bo:=by
  intro k J;by_cases af:k=a3
  ·exact .inl af
  ·by_cases al:k=bo
   ·exact .inr al
   ·exact absurd (show (if k=a3 then Tag.dt else if k=bo then .bl else .dR)=_ by rw [if_neg af,if_neg al]) J
 have abo:c4 (λk=>zk k≠.dR) zk aS a3 rS:=by
  refine ⟨λ_ h=>h,λk J=>?_,?_,t1,bu.nil _ _ _,(λk J=>(HV J).elim),(λi x ao=>by simp [rS] at ao),?_,t2,λi x ao=>?_,bu.nil _ _ _,(λk J=>(HV J).elim),(λp ar=>by simp [rS] at ar),by simp [rS]⟩
  ·rcases t3 k J with e | e<;>omega
  ·simpa [cF.cells,rS] using cv
  ·have:=ai.an a5 bA;simpa [rS] using this
  ·have qA:(List.replicate c xF)[i]?=some x:=ao;rw [WV] at qA;split at qA
   ·simp only [iX] at qA;subst qA;exact ⟨bu.nil _ _ _,(λk J=>(HV J).elim),(λj l au=>by simp [xF] at au),λ_=>⟨rfl,rfl⟩,(λb ak=>by simp [xF] at ak),⟨rfl,λ_ _ _ ab=>by simp [xF] at ab⟩⟩
   ·cases qA
 refine e2 mix (λm env u=>∃ (k:Nat) (aT:aH) (A':bB) (χ':Nat->Tag) (cm:List mm) (na:ax) (nc:Nat),k<=n/\m=n - k/\env=PR lines ⟨a3,0,none⟩ n k aT/\
   Next (λk=>zk k≠.dR) A' zk χ' aS u/\c4 A' χ' u a3 { rS with nodes:=cm,na:=na,nc:=nc }/\cm.length=k/\cm.map mm.n=List.replicate k (HO lines)) n
  ⟨0,_,_,zk,[],none,0,by omega,by omega,rfl,abo.refl (ay.refl _ _),abo,rfl,rfl⟩ ?_
 rintro m env u ⟨k,aT,A',χ',cm,na,nc,J,rfl,rfl,ba,cM,kg,Kn⟩;rw [ayn];refine bL (λaK=>?_) (λaK=>?_)
 ·refine aR (akt (w:=u) (lines:=lines) (by omega) (by omega)) ?_;rintro v aY ⟨rfl,jb,bf,j2⟩;rw [j_] at jb;have k9:=cM.new bf;refine ⟨_,_,rfl,fX (λh=>absurd rfl h) (λ_=>⟨_,_,_,k9.dt.cell (i:=1) rfl,?_⟩)⟩;rintro jB cK ih eO;obtain ⟨dL,bH⟩:=b4 ih eO;have nQ:cK.heap.size=aY.heap.size+1:=by rw [eO];simp
  clear eO;have r6:=k9.new bH;obtain ⟨wX,yE,pv,cr,gm⟩:=j5 (T:=92) (z:=.pointer none) (n:=1) (m:=8) (by kernel_rfl);have Ab:bu cK Sn wX.size na cm.length nc (cm.map λx=>ptr x.b):=by rw [cr];exact r6.nodes
  obtain ⟨ap,fU,dh,fV,Ek,eu,fC⟩:=Ab.append (P:=prog) (t:=107) (ty:=107) Tryz.underlying107 yE pv (by rw [cr];rfl) (by omega)
   (s:=some ⟨jB,0,none⟩) (m:=1) (c:=1) (news:=[ptr (u.heap.size+1)]) (by rw [cr];rfl) (jk dL (by simp [ptr])) (by simp [ptr,single]) (by omega) (by rw [gm];omega)
  rw [cr] at Ek;have acS:∀ z,a7 na z->χ' z=.nodes:=r6.qE;have Kh:ay (λz=>χ' z=.nodes) cK dh:=eu.mono λz _ aE=>acS z aE
  have GL:=Kh.an r6.dt (by rw [r6.lu];simp);refine ⟨ap,_,fU,dh,fV,⟨_,GL.cell (i:=1) rfl⟩,GL.frozen,?_⟩;intro cR kj;have eD:ay (λz=>z=a3) dh cR:=by rw [kj];exact iu _ _ _ _
  have ab_:=GL.setCell (i:=1) (.slice ap (cm.length+1) fU);have Hc:cR=dh.setCell ⟨a3,1,none⟩ (.slice ap (cm.length+1) fU):=kj;rw [<-Hc] at ab_;clear kj Hc;have asb:ai u cK:=bf.new bH;have arN:ay (λz=>χ' z=.nodes\/χ' z=.dt) u cR:=((ay.db asb).trans Kh λz _ e=>.inl e).trans eD λz _ e=>.inr (by rw [e];exact cM.lu)
  have oe:∀ z,a7 na z->z<u.heap.size:=λz aE=>cM.nodes.lt aE
  have aDN:a3<u.heap.size:=cM.dt.lt;have vR:∀ z,a7 ap z->χ' z=.nodes\/cK.heap.size<=z:=by
   intro z aE;rcases fC with e | e
   ·exact .inl (acS z (e▸aE))
   ·obtain ⟨o,aq⟩:=aE;rw [e] at aq;simp at aq;exact .inr (by omega)
  have abL:∀ z,u.heap.size<=z->z<cK.heap.size->¬ a7 ap z:=by
   intro z af al aE;rcases fC with e | e
   ·have:=oe z (e▸aE);omega
   ·obtain ⟨o,aq⟩:=aE;rw [e] at aq;simp at aq<;>omega
  have ash:gY cR (u.heap.size+1) u.heap.size ⟨List.replicate (8 * lines) 0,false⟩:=((jb.new bH).aO eu (λak=>by have:=oe _ ak;omega) (λak=>by have:=oe _ ak;omega)).aO eD (by omega) (by omega);obtain ⟨Rb,W0,Vz,qq⟩:=cM.addNode (y:=⟨u.heap.size+1,u.heap.size,HO lines⟩) (na:=ap) (nc:=fU) arN ash (by show u.heap.size<=u.heap.size+1;omega) (eJ _) (λz aE=>(vR z aE).imp id λe=>by omega) (abL _ (by show u.heap.size<=u.heap.size+1;omega) (by show u.heap.size+1<_;omega)) (abL _ (eJ _) (by show u.heap.size<_;omega))
   (by
    have:=Ek.aO eD (λz aE e=>by
     rcases vR z aE with jj | jj
     ·have ark:χ' a3=.dt:=cM.lu;rw [e,ark] at jj;cases jj
     ·omega)
    simpa using this) (by simpa [cF.cells] using ab_)
  rw [show IntKind.i64.wrap ((k:Int)+1)=((k+1:Nat):Int) by rw [cn (by omega) (by omega)];rfl];refine ⟨n - (k+1),by omega,k+1,_,Rb,W0,cm++[⟨u.heap.size+1,u.heap.size,HO lines⟩],ap,fU,by omega,rfl,rfl,ba.trans Vz,qq,by simp [kg],?_⟩;rw [pB,Kn,List.replicate_succ'];rfl
 ·have Kj:k=n:=by omega
  subst Kj;rw [ay'];refine ⟨_,_,_,cM.dt.cell (i:=2) rfl,?_⟩;have c7:({ rS with nodes:=cm,na:=na,nc:=nc }:cF).bl.length=c:=by simp [rS]
  rw [c7];refine e2 mix (λm env z=>∃ (i:Nat) (aT:aH) (A':bB) (χ':Nat->Tag) (eR:cF),i<=c/\m=c - i/\env=PS ⟨a3,0,none⟩ c i aT/\
    Next (λk=>zk k≠.dR) A' zk χ' aS z/\c4 A' χ' z a3 eR/\eR.pure=⟨lines,List.replicate k (HO lines),(List.range i).map (ng k)++List.replicate (c - i) xF.pure,[]⟩) c
   ⟨0,_,_,χ',_,by omega,by omega,rfl,ba,cM,by simp [cF.pure,rS,Kn]⟩ ?_
  rintro m env z ⟨i,aT,iB,fm,ji,aD,rfl,rfl,Hm,mc,kh⟩;rw [ayo];refine bL (λaK=>?_) (λaK=>?_)
  ·have po:ji.bl.map dC.pure=(List.range i).map (ng k)++List.replicate (c - i) xF.pure:=congrArg a9.bl kh;have ac6:ji.nodes.length=k:=by have:=congrArg (λF=>F.nodes.length) kh;simpa [cF.pure] using this
   have gw:ji.bl.length=c:=by have:=congrArg List.length po;simp at this <;> omega
   obtain ⟨NG,fc⟩:∃ NG,ji.bl[i]?=some NG:=⟨ji.bl[i],by simp [show i<ji.bl.length by omega]⟩;have aqQ:NG.pure=xF.pure:=by
    have:(ji.bl.map dC.pure)[i]?=some NG.pure:=by simp [fc]
    rw [po,nB (by simp)] at this;simp only [jS,ui,xL,WV] at this;rw [if_pos (by omega)] at this;simpa using this.symm
   refine aR (ajf mc (by omega) fc (by omega) (inc:=1) (by omega)) ?_;rintro v cK ⟨rfl,mz,qU,s6,Hn,S3,mI,_⟩;refine ⟨rfl,?_⟩;rw [show IntKind.i64.wrap ((i:Int)+1)=((i+1:Nat):Int) by rw [cn (by omega) (by omega)];rfl];refine ⟨c - (i+1),by omega,i+1,_,mz,qU,s6,by omega,rfl,rfl,Hm.trans Hn,S3,?_⟩;rw [mI,aqQ,kh];simp only [a9.connect,a9.jy,j_,Q'];rw [<-akD (by omega)];rfl
  ·have uM:i=c:=by omega
   subst uM;rw [aza];refine ⟨a3,iB,fm,ji,rfl,mc,?_,λz aE=>?_,?_⟩
   ·refine (a1.new a5).trans Hm.aO λz aE ab=>?_
    rcases t3 z ab with e | e<;>omega
   ·rcases (Hm.iff z).1 aE with aE | aE
    ·by_cases aK:z<aS.heap.size
     ·rcases t3 z (Hm.grow z aK aE) with e | e<;>omega
     ·omega
    ·exact absurd aE.2.2 aE.2.1
   ·rw [kh];simp [a9.init]
end
section
def zJ (p a v:Int):Int:=p * 4503599627370496+a * 1099511627776+v
theorem alC (ar:0<=p/\p<4096) (bc:0<=a/\a<4096) (aw:0<=v/\v<1099511627776):pI .u64 (pI .u64 (n8 .u64 p 52) (n8 .u64 a 40)) v=zJ p a v:=by
 obtain ⟨p,rfl⟩:=CU ar.1;obtain ⟨a,rfl⟩:=CU bc.1;obtain ⟨v,rfl⟩:=CU aw.1;have bY:n8 .u64 (p:Int) 52=((p * 2 ^ 52:Nat):Int):=by show IntKind.u64.wrap ((p:Int) * 2 ^ 52)=_;rw [qJ (by omega) (by omega)];simp
 have bg:n8 .u64 (a:Int) 40=((a * 2 ^ 40:Nat):Int):=by show IntKind.u64.wrap ((a:Int) * 2 ^ 40)=_;rw [qJ (by omega) (by omega)];simp
 rw [bY,bg,L6 _ _ (by omega) (by omega),MQ _ _ 52 (by omega),show p * 2 ^ 52+a * 2 ^ 40=(p * 2 ^ 12+a) * 2 ^ 40 by omega,L6 _ _ (by omega) (by omega),MQ _ _ 40 (by omega)];unfold zJ;omega
theorem HP (w:av) (x a b:Int):bK 141 [.int .i64 x,.int .i64 a,.int .i64 b] w λv w'=>v=.bool (decide (a<=x/\x<=b))/\w'=w:=by
 refine bO Tryz.func141 ?_;rw [aeO];refine bL (λh=>⟨?_,rfl⟩) (λh=>⟨?_,rfl⟩)
 ·have:a<=x:=h;simp [this]
 ·have:¬ a<=x:=h;simp [this]
theorem WC (w:av) (x a b:Int):bK 143 [.int .u64 x,.int .u64 a,.int .u64 b] w λv w'=>v=.bool (decide (a<=x/\x<=b))/\w'=w:=by
 refine bO Tryz.func143 ?_;rw [ayj];refine bL (λh=>⟨?_,rfl⟩) (λh=>⟨?_,rfl⟩)
 ·have:a<=x:=h;simp [this]
 ·have:¬ a<=x:=h;simp [this]
theorem ah7 (w:av) (x:Int):bK 158 [.int .i64 x] w λv w'=>v=.bool (decide (0<=x/\x<=5))/\w'=w:=by refine bO Tryz.func158 ?_;rw [afl];refine aR (HP _ _ _ _) ?_;rintro v w1 ⟨rfl,rfl⟩;exact ⟨_,rfl,rfl,rfl⟩
theorem amO (w:av):bK 103 [.int .i64 0,.bool true] w λv w'=>v=.tuple #[.int .u64 1,.int .i64 0]/\w'=w:=by refine bO Tryz.func103 ?_;rw [agC];refine aR (HP _ _ _ _) ?_;rintro v w1 ⟨rfl,rfl⟩;exact ⟨_,rfl,rfl,rfl⟩
theorem aji (w:av):bK 107 [.int .u64 1,.int .i64 0] w λv w'=>v=.tuple #[.int .u64 256,.int .i64 0]/\w'=w:=by refine bO Tryz.func107 ?_;rw [aCH];refine aR (WC _ _ _ _) ?_;rintro v w1 ⟨rfl,rfl⟩;refine ⟨_,rfl,eX rfl ?_⟩;refine aR (HP _ _ _ _) ?_;rintro v w1 ⟨rfl,rfl⟩;refine ⟨_,rfl,eX rfl ⟨?_,rfl⟩⟩;rfl
def NF (p a v:Int):Int:=if p<4096/\a<4096/\v<1099511627776 then zJ p a v else 0
theorem ahj (w:av) (ar:0<=p) (bc:0<=a) (aw:0<=v):bK 104 [.int .u64 p,.int .u64 a,.int .u64 v] w λr w'=>∃ e,r=.tuple #[.int .u64 (NF p a v),.int .i64 e]/\w'=w:=by
 refine bO Tryz.func104 ?_;rw [azo];unfold NF;refine bL (λh=>⟨2,?_,rfl⟩) (λh=>bL (λal=>⟨2,?_,rfl⟩) (λal=>bL (λaL=>⟨2,?_,rfl⟩) (λaL=>⟨0,?_,rfl⟩)))
 ·rw [if_neg (by omega)]
 ·rw [if_neg (by omega)]
 ·rw [if_neg (by omega)]
 ·rw [if_pos (by omega),alC (by omega) (by omega) (by omega)]
theorem QL (w:av) (a b:Int):bK 142 [.int .i64 a,.int .i64 b] w λv w'=>∃ d9 ea,v=.func (.func 187) #[] #[ptr d9,ptr ea]/\aF w' d9 [.int .i64 b] vw/\aF w' ea [.int .i64 a] vw/\ai w w':=by refine bO Tryz.func142 ?_;rw [aBA];rintro b1 w1 bA br aP aS cv cG;obtain ⟨bm,a1⟩:=b4 bA br;obtain ⟨bP,a5⟩:=b4 cv cG;exact ⟨aP,b1,rfl,bP,ai.an a5 bm,a1.new a5⟩
def za (a b i:Int):Int:=if i<0\/b<=i then -1 else a * 8+i
theorem Qv (w:av) {d9 ea:Nat} {b:Int} (aN:aF w d9 [.int .i64 b] vw) (af:aF w ea [.int .i64 a] vw) (bc:0<=a/\a<=100000) (ak:b<=100000) (i:Int):bK 187 [.int .i64 i,ptr d9,ptr ea] w λv w'=>v=.int .i64 (za a b i)/\w'=w:=by refine bO Tryz.func187 ?_;rw [ptr,ptr,ay9];unfold za;refine bL (λh=>⟨by rw [if_pos (by omega)],rfl⟩) (λh=>⟨b,aN.cell rfl,bL (λal=>⟨by rw [if_pos (by omega)],rfl⟩) (λal=>⟨a,af.cell rfl,?_,rfl⟩)⟩);rw [if_neg (by omega),cn (x:=a * 8) (by omega) (by omega),cn (x:=a * 8+i) (by omega) (by omega)]
attribute [local irreducible] oq px xI
theorem QM:oq prog 187=true:=by kernel_rfl
theorem ahy (w:av) (i:Int):bK 105 [.int .i64 i] w λv w'=>v=.int .i64 (za 1 16 i)/\ai w w':=by
 refine bO Tryz.func105 ?_;rw [ayW];refine aR (QL _ _ _) ?_;rintro v w1 ⟨d9,ea,rfl,DV,bA,aj⟩;have b3:=QM;refine ⟨_,rfl,?_⟩;have ao:(#[]++#[.int .i64 i]++#[ptr d9,ptr ea]:Array bx)=#[.int .i64 i,ptr d9,ptr ea]:=by simp
 refine EW b3 ao ?_;refine aR (Qv w1 DV bA (by omega) (by omega) i) ?_;rintro v aS ⟨rfl,rfl⟩;exact ⟨_,rfl,rfl,aj⟩
theorem amP (w:av) (i:Int):bK 106 [.int .i64 i] w λv w'=>v=.int .i64 (za 3 6 i)/\ai w w':=by
 refine bO Tryz.func106 ?_;rw [afS];refine aR (QL _ _ _) ?_;rintro v w1 ⟨d9,ea,rfl,DV,bA,aj⟩;have b3:=QM;refine ⟨_,rfl,?_⟩;have ao:(#[]++#[.int .i64 i]++#[ptr d9,ptr ea]:Array bx)=#[.int .i64 i,ptr d9,ptr ea]:=by simp
 refine EW b3 ao ?_;refine aR (Qv w1 DV bA (by omega) (by omega) i) ?_;rintro v aS ⟨rfl,rfl⟩;exact ⟨_,rfl,rfl,aj⟩
theorem Fo (w:av) {i:Int} (aN:96<=i) (af:i<256):bK 108 [.int .i64 i] w λv w'=>v=.int .i64 (i * 8)/\w'=w:=by
 refine bO Tryz.func108 ?_;rw [aCI];refine bL (λh=>by omega) (λh=>bL (λh=>by omega) (λh=>⟨?_,rfl⟩))
 rw [cn (by omega) (by omega)]
theorem alD (w:av) {i:Int} (aN:1<=i) (af:i<=256):bK 102 [.int .i64 i] w λv w'=>v=.int .i64 (i * 8)/\w'=w:=by
 refine bO Tryz.func102 ?_;rw [aCA];refine bL (λh=>by omega) (λh=>bL (λh=>by omega) (λh=>⟨?_,rfl⟩))
 rw [cn (by omega) (by omega)]
def IC:Nat->Int->Int->Int
 | 0,_,s=>s
 |n+1,i,s=>IC n (i+1) (pI .u64 s (n8 .u64 7 (7 * i)))
def yJ (n:Nat):Int:=IC n 0 549755813888
theorem ajC (w:av) (aN:1<=n) (af:n<=5):bK 100 [.int .i64 n] w λv w'=>v=.tuple #[.int .u64 (yJ n),.int .i64 0]/\w'=w:=by
 refine bO Tryz.func100 ?_;rw [axP];refine bL (λh=>by omega) (λh=>bL (λh=>by omega) (λh=>?_))
 refine e2 mix (λm env u=>∃ (i:Nat) (s:Int) (aT:aH),m=n - i/\i<=n/\env=NS s n i aT/\u=w/\IC (n - i) i s=yJ n) n ⟨0,_,_,rfl,by omega,rfl,rfl,rfl⟩ ?_;rintro m env u ⟨i,s,aT,rfl,aD,rfl,rfl,aw⟩;rw [avr];refine bL (λar=>?_) (λar=>?_)
 ·rw [cn (by omega) (by omega),qJ (by omega) (by omega),cn (by omega) (by omega)];refine ⟨by omega,n - (i+1),by omega,i+1,_,_,rfl,by omega,rfl,rfl,?_⟩;rw [show n - i=n - (i+1)+1 by omega,IC] at aw;exact aw
 ·rw [av8];have:i=n:=by omega
  subst this;rw [xL,IC] at aw;rw [aw];exact ⟨rfl,rfl⟩
theorem aai (af:n<=5):0<=yJ n/\yJ n<1099511627776:=by rcases n with _ | _ | _ | _ | _ | _ | n;all_goals first | decide | omega
end
section
theorem VQ {a:ax} {l:bR} (h:bW u a (is l)) (ao:l[i]?=some x) {z:Int} (aE:z=i) (aj:n=l.length) {K:bh->Prop}
  (J:∀ b o,(∀ y,ai u y->y.cell? ⟨b,o,none⟩=some (.int .i64 x))->K ⟨b,o,none⟩):cb a n z 1 K:=by
 subst aE aj;have aK:=dy ao;have Aj:(is l)[i]?=some (.int .i64 x):=by simp [is,ao]
 rcases h with he | ⟨b,o,rfl,ab⟩
 ·rw [he] at Aj;cases Aj
 ·refine hc (by omega) (by omega) ?_;have:=J b (o+i) λy az=>(bW.new az (.inr ⟨b,o,rfl,ab⟩)).cell Aj
  simpa using this
def oR (line lines:Int):Bool:=decide (98<=lines/\lines<=256/\96<=line/\line<lines)
theorem akE (w:av) (line lines:Int):bK 169 [.int .i64 line,.int .i64 lines] w λv w'=>v=.bool (oR line lines)/\w'=w:=by
 refine bO Tryz.func169 ?_;rw [aBG];have af:bK 207 [.int .i64 lines] w λv w'=>v=.bool (decide (98<=lines/\lines<=256))/\w'=w:=by
  refine bO Tryz.func207 ?_;rw [azq];refine bL (λh=>⟨?_,rfl⟩) (λh=>⟨?_,rfl⟩)
  ·have h:98<=lines:=h;congr 1;simp [h]
  ·have h:¬ 98<=lines:=h;congr 1;simp [h]
 refine aR af ?_;rintro v w1 ⟨rfl,rfl⟩;unfold oR;refine ⟨_,rfl,bL (λh=>bL (λal=>⟨?_,rfl⟩) (λal=>⟨?_,rfl⟩)) (λh=>⟨?_,rfl⟩)⟩
 ·have al:96<=line:=al;congr 1;simp [h.1,h.2,al]
 ·have al:¬ 96<=line:=al;congr 1;simp [al]
 ·congr 1;simp;intro a b;exact absurd ⟨a,b⟩ h
theorem alE {a:ax} {cap:Nat} {L:bR} (aq:bu u 3 1 a n cap (is L)) (bA:n<=1000000) {K:Nat->ax->Nat->Nat->aV}
  (J:∀ b ap bU aY,b=u.heap.size->bu aY 3 1 ap (n+1) bU (is (L++[x]))->ay (a7 a) u aY->(∀ k,a7 ap k->a7 a k\/u.heap.size<=k)->K b ap (n+1) bU aY) :
  ∀ b1 aS,b1=u.heap.size->aS=u.alloc (.cells #[.int .i64 x] 3)->∃ (ap:ax) (h_ h9:Nat),∃ aY,(Builtin.append_ #[22,22] 22 #[(.slice a n cap),(.slice (some ⟨b1,0,none⟩) 1 1)]).run prog aS=.ok (.slice ap h_ h9) aY/\K b1 ap h_ h9 aY:=by
 obtain ⟨inf,aD,aE,cr,gm⟩:=j5 (T:=3) (z:=.int .i64 0) (n:=1) (m:=8) (by kernel_rfl);rw [<-cr] at aq;refine As (vs:=[.int .i64 x]) Tryz.underlying22 aD aE (by rw [cr];rfl) (by omega) aq (by rw [cr];rfl) (by intro v aw;simp at aw;subst aw;rfl) (by omega) (by omega) ?_;intro b ap bU aY af al;have e:is L++[Value.int .i64 x]=is (L++[x]):=by simp [is]
 rw [cr,e] at al;exact J b ap bU aY af al
def mD (l:List Bool):aH:=l.map .bool
end
end Go.Proofs.YtmkljjbioomepaaGreat
