import Derived.Test.YtmkljjbioomepaaGreata11
set_option linter.all false
set_option maxHeartbeats 4000000
set_option maxRecDepth 100000
namespace Go.Proofs.YtmkljjbioomepaaGreat
open Go.Proofs.Tryz Go.b8
variable {A:bB} {P:Program} {X:cF} {a:ax} {b c cap a3 g i j m n q:Nat} {d:cL} {e t ty:TypeId} {n':bt} {p p':gh} {w w':av} {xs:aH} {y:mm} {aG:Nat->Tag}
section
theorem ahx (au:xs.length=n) (aA:bW w a xs) (af:∀ u ∈ xs,single u=true) (ak:n<=1000000000) (aj:a=none->n=0) :
  bK 71 [.slice a n c] w λv w'=>∃ cB cap,v=.slice cB n cap/\Iv w w' 3 1 a cB n cap xs:=by
 refine bO Tryz.func71 ?_;rw [awK];obtain ⟨i,aD,aE,cr,gm⟩:=j5 (T:=3) (z:=.int .i64 0) (n:=1) (m:=8) (by kernel_rfl);cases a with
 |none=>
  refine g8 rfl ⟨none,0,by rw [aj rfl],ay.refl _ _,?_,?_,by simp⟩
  ·rw [aj rfl] at au ⊢;rw [jR au];exact bu.nil _ _ _
  ·rintro k ⟨o,aq⟩;cases aq
 |some a=>refine eX rfl ?_;rintro b1 w1 rfl rfl;obtain ⟨cB,bU,w',fV,ab⟩:=Qn (t:=22) (ty:=22) (z:=.int .i64 0) (n:=n) (c:=c) (w:=w) (a:=a) (xs:=xs) Tryz.underlying22 aD aE (by rw [cr];rfl) (by omega) (by rw [au,cr];omega) aA af (by omega) (by rw [gm];omega);exact ⟨cB,n,bU,w',fV,cB,bU,rfl,by rw [cr] at ab;exact ab⟩
theorem Xh {jN jx:Nat} {n:bt} {r:bx} {t tY:Tag} (mi:gy A w b p) (wh:∀ k,p.mut b k->aG k=t) (yE:t≠.dR) (oe:∀ k,aG k≠.dR->k<w.heap.size) (aqp:∀ k,aG k≠.dR->A k) (Un:aG jx=tY)
  (S:QK A b jN jx p n w r w') :
  ∃ (χ':Nat->Tag) (d:cL) (p':gh),r=.tuple #[d.val,.bool (p.pure.step n).2.2.isSome]/\p'.pure=(p.pure.step n).1/\gY w' jN jx (p.pure.step n).2.1/\ay (λk=>aG k=t\/aG k=tY) w w'/\
   (∀ k,k<w.heap.size->χ' k≠.dR->aG k≠.dR)/\(∀ k,k<w.heap.size->aG k≠t->χ' k=aG k)/\(∀ k,χ' k≠.dR->k<w'.heap.size)/\(∀ k,p'.mut b k->χ' k=t)/\gy (k0 A aG χ' w) w' b p'/\
   ∀ x,(p.pure.step n).2.2=some x->tT (k0 A aG χ' w) w' d x:=by
 classical
 obtain ⟨d,p',rfl,asU,jb,JY,aq9,rh,D9,j4,atP,aq7⟩:=S;have Kr:∀ k,p.mut b k->k<w.heap.size:=by
  rintro k (rfl | J | J)
  ·exact mi.an.lt
  ·exact mi.own.lt J
  ·exact mi.rI.lt J
 have acG:∀ k,p'.mut b k->p.mut b k\/w.heap.size<=k:=by
  rintro k (J | J | J)
  ·exact .inl (.inl J)
  ·rcases j4 with e | e
   ·exact .inl (.inr (.inl (e▸J)))
   ·exact .inr (e k J)
  ·rcases atP with e | e
   ·exact .inl (.inr (.inr (e▸J)))
   ·exact .inr (e k J)
 have uU:=rh (λk=>(k<w.heap.size/\A k)\/a7 p'.e5 k\/a7 p'.fw k) (λk J=>J) (λk J=>by
  rcases J with J | J | J
  ·exact .inl ⟨Kr k (.inl J),mi.oT k (.inl J)⟩
  ·exact .inr (.inl J)
  ·exact .inr (.inr J))
 have ar8:∀ k,p'.mut b k->k<w'.heap.size:=by
  rintro k (rfl | J | J)
  ·exact uU.an.lt
  ·exact uU.own.lt J
  ·exact uU.rI.lt J
 let χ':Nat->Tag:=λk=>if p'.mut b k then t else if (p.pure.step n).2.2.isSome=true/\a7 d.Words k then .dR else aG k
 have t1:∀ k,p'.mut b k->χ' k=t:=λk J=>if_pos J
 have t2:∀ k,¬ p'.mut b k->(p.pure.step n).2.2.isSome=true->a7 d.Words k->χ' k=.dR:=λk af al aL=>by show (if p'.mut b k then t else if (p.pure.step n).2.2.isSome=true/\a7 d.Words k then Tag.dR else aG k)=_;rw [if_neg af,if_pos ⟨al,aL⟩]
 have t3:∀ k,¬ p'.mut b k->¬ ((p.pure.step n).2.2.isSome=true/\a7 d.Words k)->χ' k=aG k:=λk af al=>by show (if p'.mut b k then t else if (p.pure.step n).2.2.isSome=true/\a7 d.Words k then Tag.dR else aG k)=_;rw [if_neg af,if_neg al]
 have j0:∀ k,a7 d.Words k->k<w.heap.size->aG k=t:=λk J aK=>by
  rcases aq9 k J with af | af
  ·exact wh k (.inr (.inr af))
  ·omega
 have a':∀ k,k<w.heap.size->χ' k≠.dR->aG k≠.dR:=by
  intro k aK ab;by_cases hm:p'.mut b k
  ·rcases acG k hm with af | af
   ·rw [wh k af];exact yE
   ·omega
  ·by_cases aC:(p.pure.step n).2.2.isSome=true/\a7 d.Words k
   ·rw [t2 k hm aC.1 aC.2] at ab;exact absurd rfl ab
   ·rw [t3 k hm aC] at ab;exact ab
 have aX:∀ k,k<w.heap.size->aG k≠t->χ' k=aG k:=by
  intro k aK ab;by_cases hm:p'.mut b k
  ·rcases acG k hm with af | af
   ·exact absurd (wh k af) ab
   ·omega
  ·by_cases aC:(p.pure.step n).2.2.isSome=true/\a7 d.Words k
   ·exact absurd (j0 k aC.2 aK) ab
   ·exact t3 k hm aC
 have au:∀ k,χ' k≠.dR->k<w'.heap.size:=by
  intro k ab;by_cases hm:p'.mut b k
  ·exact ar8 k hm
  ·by_cases aC:(p.pure.step n).2.2.isSome=true/\a7 d.Words k
   ·rw [t2 k hm aC.1 aC.2] at ab;exact absurd rfl ab
   ·rw [t3 k hm aC] at ab;exact ks (oe k ab) D9.size
 have fO:gy (k0 A aG χ' w) w' b p':=by
  refine rh _ (λk J=>?_) (λk J=>.inl (by rw [t1 k J];exact yE));rcases J with J | J
  ·by_cases hm:p'.mut b k
   ·rcases hm with hm | hm | hm
    ·exact .inl ⟨Kr k (.inl hm),mi.oT k (.inl hm)⟩
    ·exact .inr (.inl hm)
    ·exact .inr (.inr hm)
   ·by_cases aC:(p.pure.step n).2.2.isSome=true/\a7 d.Words k
    ·rw [t2 k hm aC.1 aC.2] at J;exact absurd rfl J
    ·rw [t3 k hm aC] at J;exact .inl ⟨oe k J,aqp k J⟩
  ·exact .inl ⟨J.1,J.2.1⟩
 refine ⟨χ',d,p',rfl,asU,jb,D9.mono λk _ J=>?_,a',aX,au,t1,fO,λx ao=>?_⟩
 ·rcases J with J | J | J
  ·exact .inl (wh k (.inl J))
  ·exact .inl (wh k (.inr (.inr J)))
  ·exact .inr (by rw [J];exact Un)
 ·obtain ⟨d1,d2,d3,d4,d5,d6,d7⟩:=JY x ao;refine ⟨d1,d2,d3,d4,?_,d5,d6⟩;by_cases pt:x.words=[]
  ·exact .inl pt
  ·refine .inr ?_;rcases d3 with ab | ⟨fD,P9,abS,_⟩
   ·exact absurd (by simpa [us] using ab) pt
   ·rw [abS];have TU:a7 d.Words fD:=⟨P9,abS⟩;obtain ⟨cs,dG⟩:=aq7 fD TU;have sk:¬ p'.mut b fD:=by
     rintro (J | J | ⟨o,aq⟩)
     ·have:=aF.pA dG (J▸fO.an);revert this;decide
     ·obtain ⟨Jj,yn⟩:=jX fO.own J;have:=aF.pA dG yn;revert this;decide
     ·rw [d7] at aq;cases aq
    intro ab;rcases ab with ab | ⟨af,_,aL⟩
    ·exact ab (t2 fD sk (by rw [ao];rfl) TU)
    ·exact yE (by rw [<-j0 fD TU af];exact aL)
theorem c4.ayt (h:c4 A aG w a3 X) {fD:Nat} {c:dC} {x:a_} (ab:X.bl[i]?=some c) (hI:c.fD=some fD) (aM:q<c.raw.length) (aC:tT A w d x) :
  ∃ A',Next A A' aG aG w (dO w ⟨fD,0+q * 2,none⟩ 0 d.cells)/\c4 A' aG (dO w ⟨fD,0+q * 2,none⟩ 0 d.cells) a3 { X with bl:=X.bl.set i { c with raw:=c.raw.set q d,batch:=c.batch.set q x } }:=by
 have fc:=h.bw i c ab;obtain ⟨ak,aZ⟩:=fc.batch fD hI;rw [l6];have J:ay (λk=>aG k=.batch i) w (dO w ⟨fD,q * 2,none⟩ 0 d.cells):=(nI w fD (q * 2) 0 d.cells).mono λk _ e=>by rw [e];exact aZ
 have pg:=ak.dO (o:=q * 2) (i:=0) (vs:=d.cells);rw [vp,agB (Qr _) (by simpa [j6] using aM) rfl,ajb] at pg;obtain ⟨m,ba⟩:=h.move (χ':=aG) (T:=λt=>t=.batch i) J (by simp) (λ_ _ h=>h) (λ_ _ _ _=>rfl);have f1:=bu.eF m fc.own fc.tag (by simp) (by simp);have iU:sE (k0 A aG aG w) aG (dO w ⟨fD,q * 2,none⟩ 0 d.cells) i { c with raw:=c.raw.set q d,batch:=c.batch.set q x }:=by
  refine ⟨f1.1,f1.2,λj l au=>(fc.lane j l au).eF m (by simp) (by simp),λaj=>?_,λb JO=>?_,?_,λk v y aw az=>?_⟩
  ·have ly:c.fD=none:=aj;rw [hI] at ly;cases ly
  ·have Tj:c.fD=some b:=JO;rw [hI] at Tj;simp only [iX] at Tj;subst Tj;exact ⟨pg,aZ⟩
  ·simp [fc.ds.1]
  ·rw [oy] at aw az;by_cases he:q=k
   ·subst he;rw [if_pos rfl,if_pos (by omega)] at aw;rw [if_pos rfl,if_pos (by rw [<-fc.ds.1];omega)] at az;simp only [iX] at aw az;subst aw;subst az;exact aC.aO m.Hh m.old
   ·rw [if_neg he] at aw az;exact (fc.ds.2 k v y aw az).aO m.Hh m.old
 obtain ⟨EN,cM⟩:=h.E2 (χ':=aG) ab (J.mono λk _ e=>.inr (by rw [e];rfl)) (λ_ _ h=>h) (λ_ _ _ _=>rfl) (λk ab=>ks (h.qB ab) J.size) (by have e:(jL X.bl).set i (dC.cells { c with raw:=c.raw.set q d,batch:=c.batch.set q x })=jL X.bl:=wy (by rw [Ly ab];simp [dC.cells]);rw [e];exact (aF.eF m h.cls h.i_ (by simp) (by simp)).1) h.i_ iU
 exact ⟨_,EN,cM⟩
theorem c4.ayw (h:c4 A aG w a3 X) {c:dC} (ab:X.bl[i]?=some c) (n:Nat) :
  ∃ A',Next A A' aG aG w (w.setCell ⟨X.bo,0+i * 7+4,none⟩ (.int .i64 n))/\c4 A' aG (w.setCell ⟨X.bo,0+i * 7+4,none⟩ (.int .i64 n)) a3 { X with bl:=X.bl.set i { c with waiting:=n } }:=by
 have J:ay (λk=>aG k=.bl) w (w.setCell ⟨X.bo,0+i * 7+4,none⟩ (.int .i64 n)):=(iu w X.bo _ _).mono λk _ e=>by rw [e];exact h.i_
 obtain ⟨m,ba⟩:=h.move (χ':=aG) (T:=λt=>t=.bl) J (by simp) (λ_ _ h=>h) (λ_ _ _ _=>rfl);have fc:=(h.bw i c ab).eF m (λt aZ e=>by rw [e] at aZ;exact aZ);obtain ⟨ak,_⟩:=tI (k:=4) (c':={ c with waiting:=n }) h.cls ab (by omega) (v:=.int .i64 n) (by simp [dC.cells]);obtain ⟨EN,cM⟩:=h.E2 (χ':=aG) (c':={ c with waiting:=n }) ab (J.mono λk _ e=>.inl e) (λ_ _ h=>h) (λ_ _ _ _=>rfl) (λk ab=>ks (h.qB ab) J.size) (by rw [Hz];exact ak) h.i_
  ⟨fc.own,fc.tag,fc.lane,fc.none,fc.batch,fc.ds⟩
 exact ⟨_,EN,cM⟩
def cT.Jp (C:cT) (q:Nat) (p:fx) (dA:eI):Option a_->cT
 |none=>C
 |some x=>{ C with aU:=C.aU.set q ⟨p,dA.tail⟩,batch:=C.batch.map λds=>ds.set (dA.headD 0) x,waiting:=C.waiting - 1 }
theorem XL {R:dW} {iB:bB} {fm:Nat->Tag} {hZ:av} {ji:cF} {aP:Nat} {ea:dC} {ft:fF} (h:c4 iB fm hZ a3 ji) (ab:ji.bl[i]?=some ea) (au:ea.aU[q]?=some ft) (a':ea.la=some ⟨g,0,none⟩)
  (BI:aF hZ aP d.cells o9) (sC:Option a_) (aC:∀ x,sC=some x->tT iB hZ d x) (gw:sC.isSome=true->∃ fD hV dA,ft.cP=hV::dA/\hV<ea.raw.length/\ea.fD=some fD/\0<ea.waiting) (hlen:ft.cP.length<=1024) (U7:ea.waiting<=1024)
  (cC:∀ w' A' χ' eR,Next iB A' fm χ' hZ w'->c4 A' χ' w' a3 eR->eR.pure=ji.pure.jy i (ea.pure.Jp q ft.p.pure ft.cP sC)->R (.bool true) w') :
  (bif sC.isSome then (∀ kq,kq=hZ.drew->∃ x1:aV,x1 kq/\jg (some ⟨ji.bo,0+i * 7,none⟩) λafp=>∃ (batch:ax) (EK:Nat) (aoY:Nat),(∀ u,x1 u->u.cell? ⟨afp.block,afp.off+3,none⟩=some (.slice batch EK aoY))/\∃ (cP:ax) (aeS:Nat) (aw7:Nat),(∀ u,x1 u->u.cell? ⟨g,(0+q * 2)+1,none⟩=some (.slice cP aeS aw7))/\cb cP aeS 0 1 λaaK=>∃ (ee:Int),(∀ u,x1 u->u.cell? aaK=some (.int .i64 ee))/\∃ (Code:Int) (Words:ax) (Dp:Nat) (Dn:Nat),(∀ u,x1 u->df u ⟨aP,0,none⟩ 0 [(.int .i64 Code),(.slice Words Dp Dn)])/\cb batch EK ee 2 λaaL=>ha kq aaL 0 [(.int .i64 Code),(.slice Words Dp Dn)]/\∀ mx,mx=dO kq aaL 0 [(.int .i64 Code),(.slice Words Dp Dn)]->∃ (aeR:ax) (VD:Nat) (VC:Nat),mx.cell? ⟨g,(0+q * 2)+1,none⟩=some (.slice aeR VD VC)/\ns aeR VD VC 1 (VD:Nat) (VC:Nat) 1 λqc L2 L1=>Calls prog 71 #[(.slice qc L2 L1)] mx λe nu=>∃ (afh:ax) (afj:Nat) (afi:Nat),e=.returned (.slice afh afj afi)/\(∃ u,nu.cell? ⟨g,(0+q * 2)+1,none⟩=some u)/\nu.frozen? ⟨g,(0+q * 2)+1,none⟩=false/\∀ rH,rH=nu.setCell ⟨g,(0+q * 2)+1,none⟩ (.slice afh afj afi)->jg (some ⟨ji.bo,0+i * 7,none⟩) λafq=>∃ (waiting:Int),rH.cell? ⟨afq.block,afq.off+4,none⟩=some (.int .i64 waiting)/\jg (some ⟨ji.bo,0+i * 7,none⟩) λHH=>(∃ u,rH.cell? ⟨HH.block,HH.off+4,none⟩=some u)/\rH.frozen? ⟨HH.block,HH.off+4,none⟩=false/\∀ E8,E8=rH.setCell ⟨HH.block,HH.off+4,none⟩ (.int .i64 (IntKind.i64.wrap (waiting - 1)))->R (.bool true) E8) else (R (.bool true) hZ)):=by
 cases O0:sC with
 |none=>refine cC hZ iB fm ji (h.refl (ay.refl _ _)) h ?_;rw [O0];show ji.pure=ji.pure.jy i ea.pure;have:ji.pure.bl.set i ea.pure=ji.pure.bl:=wy (by simp [cF.pure,ab]);simp only [a9.jy,j_,this]
 |some x=>
  obtain ⟨fD,hV,dA,uW,uU,hI,mJ⟩:=gw (by rw [O0];rfl);have ti:=aC x O0;intro kq adD;have nN:Go.b8.ai hZ kq:=by rw [adD];exact eh _
  clear adD;have DN:=h.new nN;have aqB:=ai.an nN BI;have fc:=DN.bw i ea ab;have kF:=fc.lane q ft au;obtain ⟨cU,pQ,qw,⟨abe,J3⟩,_,GQ⟩:=bu.row fc.own (yK ea.aU) (by omega) (i0 au);have D3:cU=g:=by rw [a'] at pQ;simp at pQ;exact pQ.symm
  subst D3;have asN:(is (ft.cP.map Int.ofNat))[0]?=some (.int .i64 hV):=by rw [uW];rfl
  refine ⟨λz=>Go.b8.ai kq z,ay.refl _ _,some ⟨fD,0,none⟩,ea.raw.length,ea.raw.length,λz aE=>(DN.new aE).n_ (k:=3) ab (by simp [dC.cells,hI]),ft.sG,ft.cP.length,ft.tP,λz aE=>qn aE (GQ 1 _ rfl) id,?_⟩;refine HZ (i:=0) kF.cP asN rfl λaaK jl aDv=>⟨hV,λz aE=>qn aE jl id,d.Code,d.Words,d.ey,d.eg,λz aE=>HU (ai.an aE aqB),hc (by omega) (by omega) ?_⟩
  rw [j_];obtain ⟨mz,Hn,Jw⟩:=DN.ayt (q:=hV) ab hI uU (ti.aO (ay.db nN) λ_ _ h=>h);refine ⟨kA (vs:=d.cells) (fc.batch fD hI).1 ?_ (cL.single d),?_⟩
  ·rw [vP (Qr _)];simp [j6,cL.cells];omega
  intro mx tA;have adE:mx=dO kq ⟨fD,0+hV * 2,none⟩ 0 d.cells:=tA;rw [<-adE] at Hn Jw;clear adE;clear tA;have Tn:(ji.bl.set i { ea with raw:=ea.raw.set hV d,batch:=ea.batch.set hV x })[i]?=some { ea with raw:=ea.raw.set hV d,batch:=ea.batch.set hV x }:=by simp [dy ab]
  have abY:=Jw.bw i _ Tn;have ar6:=abY.lane q ft au;obtain ⟨bI,aro,_,⟨aDk,arp⟩,_,arv⟩:=bu.row abY.own (yK ea.aU) (by omega) (i0 au);have D3:bI=cU:=by have:ea.la=some ⟨bI,0,none⟩:=aro;rw [a'] at this;simp at this;exact this.symm
  subst D3;refine ⟨ft.sG,ft.cP.length,ft.tP,arv 1 _ rfl,?_⟩;have ac5:=ar6.cP;rcases ac5.2 with ⟨_,aN,_⟩ | ⟨cO,aES,mi,El,asO,kH,po,UF⟩
  ·rw [uW] at aN;cases aN
  rw [mi];have uV:0<ft.cP.length:=by rw [uW];simp
  refine sB (by omega) (by omega) (by omega) (by omega) asO ?_;intro qc rl;have dw:bW mx qc (is (dA.map Int.ofNat)):=by
   by_cases ac_:dA=[]
   ·rw [ac_];exact .inl rfl
   ·rcases rl with e | ⟨e,_⟩
    ·rw [e];have:=ac5.rd;rw [mi] at this;have:=this.drop 1;rw [uW] at this;simpa [is] using this
    ·exfalso;rw [uW] at e;simp at e;exact ac_ (jR (by omega))
  have asT:(Int.toNat (ft.cP.length:Int)) - Int.toNat 1=dA.length:=by rw [uW];simp
  rw [asT];refine aR (ahx (by simp [is]) dw (GT _) (by rw [uW] at hlen;simp at hlen <;> omega) (λe=>by rcases rl with jj | ⟨_,jj⟩<;>rw [jj] at e<;>cases e)) ?_;rintro r nu ⟨wO,rc,rfl,vZ,asw,TN,_⟩;have apH:=Jw.new vZ;have TB:=apH.bw i _ Tn;obtain ⟨dd,ach,_,⟨aDl,arq⟩,_,arw⟩:=bu.row TB.own (yK ea.aU) (by omega) (i0 au);have D3:dd=bI:=by have:ea.la=some ⟨dd,0,none⟩:=ach;rw [a'] at this;simp at this;exact this.symm
  subst D3;refine ⟨_,_,_,rfl,⟨_,arw 1 _ rfl⟩,arq.frozen,?_⟩;intro rH Eu;have J5:fm dd=.aU i:=TB.tag dd ⟨0,ach⟩;have z4:ay (λz=>z=dd) nu rH:=by rw [Eu];exact iu _ _ _ _
  have aEc:∀ z,a7 wO z->fm z=.cP i q\/nu.heap.size<=z\/(mx.heap.size<=z/\z<nu.heap.size):=λz aE=>.inr (by have:=TN z aE;omega)
  have arX:bu rH uq 2 ea.la ea.aU.length ea.lc ((l0 ea.aU).set q (fF.cells { ft with cP:=dA,sG:=wO,tP:=rc })).flatten:=by have cV:=TB.own;have O5:bu nu uq 2 ea.la ea.aU.length ea.lc (l0 ea.aU).flatten:=cV;rw [a'] at O5 ⊢;rw [Eu];have:=bu.setCell O5 (i:=q * 2+1) (by have:=dy au;omega) (.slice wO dA.length rc);rw [Rd (yK _) _ (i0 au) (by omega)] at this;simpa [fF.cells] using this
  have asx:bu rH vw 1 wO dA.length rc (is (dA.map Int.ofNat)):=asw.aO z4 λz aE e=>by have af:=TN z aE;have al:=arp.lt;omega
  clear Eu;have arL:ay (λz=>E5 i q (fm z)) mx rH:=(ay.db vZ).trans z4 λz _ e=>.inr (by rw [e];exact J5)
  obtain ⟨Mt,aFb,Vy,Jx⟩:=Jw.afD Tn au arL (λz aE=>.inr (TN z aE)) asx arX;rw [pJ] at Jx;have To:(ji.bl.set i { ea with raw:=ea.raw.set hV d,batch:=ea.batch.set hV x,aU:=ea.aU.set q { ft with cP:=dA,sG:=wO,tP:=rc } })[i]?=some { ea with raw:=ea.raw.set hV d,batch:=ea.batch.set hV x,aU:=ea.aU.set q { ft with cP:=dA,sG:=wO,tP:=rc } }:=by simp [dy ab]
  refine ⟨ea.waiting,Jx.n_ (k:=4) To rfl,⟨_,Jx.n_ (k:=4) To rfl⟩,Jx.cls.frozen,?_⟩;rw [show IntKind.i64.wrap ((ea.waiting:Int) - 1)=((ea.waiting - 1:Nat):Int) by rw [cn (by omega) (by omega)];omega];obtain ⟨aCU,awe,abg⟩:=Jx.ayw To (ea.waiting - 1);intro E8 KX;rw [pJ] at abg;have atN:E8=rH.setCell ⟨ji.bo,0+i * 7+4,none⟩ (.int .i64 (ea.waiting - 1:Nat)):=KX;rw [atN];refine cC _ _ _ _ ((((h.refl nN).trans Hn).trans Vy).trans awe) abg ?_;refine (cF.Qk ji i _).trans ?_;congr 1;rw [O0];simp [dC.pure,cT.Jp,hI,uW,oz,fF.pure]
end
section
theorem bu.aoV {i:TypeInfo} (aZ:P.underlying t=some (.slice e)) (aD:P.info? e=some i) (cr:0<i.size)
  (aq:bu w e i.size (some ⟨g,0,none⟩) n cap xs) {s:bh} {news:aH} (au:news.length=m * i.size) (aX:bW w (some s) news) (af:∀ u ∈ news,single u=true) (Eo:n+m<=cap) :
  ∃ w',(Builtin.append_ #[t,t] ty #[.slice (some ⟨g,0,none⟩) n cap,.slice (some s) m c]).run P w=.ok (.slice (some ⟨g,0,none⟩) (n+m) cap) w'/\bu w' e i.size (some ⟨g,0,none⟩) (n+m) cap (xs++news)/\ay (λk=>k=g) w w':=by
 have hlen:(xs++news).length=(n+m) * i.size:=by rw [gp,aq.1,au,Fx]
 by_cases hm:m=0
 ·subst hm;have aj:news=[]:=jR (by simpa using au);subst aj;refine ⟨w,?_,by simpa using aq,ay.refl _ _⟩;have hle:=aq.le;simp [Builtin.append_,run_underlying aZ,sizeOf,typeInfo,aD,Builtin.lenOf,hle,Builtin.firstCells,loadCells,loadCellsFrom,storeCells]
 ·have cj:news≠[]:=by
   intro ab;have aN:m * i.size=0:=by rw [<-au,ab];rfl
   rcases Nat.mul_eq_zero.1 aN with h | h<;>omega
  rcases aX with ab | ⟨sb,so,he,jl⟩
  ·exact absurd ab cj
  simp at he;subst he;have Eg:∀ j u,news[j]?=some u->w.cell? ((⟨sb,so,none⟩:bh).add j)=some u:=λj u hu=>by rw [tO];exact jl j u hu
  have yf:∀ u ∈ news,u.oneCell'=true:=λu hu=>af2 (af u hu)
  rcases aq.2 with ⟨aN,_⟩ | ⟨cU,cur,he,a',BY,BM,dG,Af⟩
  ·cases aN
  simp at he;subst he;have gv:n * i.size+news.length<=cur.toArray.size:=by rw [au,List.size_toArray,dG,<-Fx];exact Ib _ Eo
  have aA:=run_append_room (P:=P) w t ty e i aZ aD g n cap cur.toArray a' ⟨sb,so,none⟩ m c news au Eg yf Eo gv;refine ⟨_,aA,⟨hlen,.inr ⟨g,_,rfl,setRow_heap w g cur.toArray _ e _ a',Eo,BM,?_,?_⟩⟩,⟨rfl,rfl,rfl,by simp,λk _ J=>setRow_other w g k _ (λe=>J e)⟩⟩
  ·simp only [gp,o2,vq] at *;simp at gv <;> omega
  ·rw [Af,<-hlen];exact List.take_left
theorem ah3 {i:TypeInfo} {z:bx} (aZ:P.underlying t=some (.slice e)) (aD:P.info? e=some i) (aE:i.zero=some z) (aub:z.cells=#[z]) {o:Nat} (hw:ha w ⟨b,o,none⟩ 0 [z]) :
  (Builtin.clear_ #[t] ty #[.slice (some ⟨b,o,none⟩) 1 c]).run P w=.ok (.tuple #[]) (dO w ⟨b,o,none⟩ 0 [z]):=by
 have cq:=HK (P:=P) hw;have pv:(Builtin.zeroCells z.cells 1).toList=[z]:=by rw [aub];simp [Builtin.zeroCells]
 simp [Builtin.clear_,run_underlying aZ,zeroValue,typeInfo,aD,aE,pv,cq]
theorem bu.ayR {e:Nat} (h:bu w e 1 a n cap xs) (bc:a≠none) (hm:m<=n):bu w e 1 a m cap (xs.take m):=by
 rcases h.2 with ⟨aN,_⟩ | ⟨g,cur,he,a',BY,BM,dG,Af⟩
 ·exact absurd aN bc
 ·refine ⟨by have:=h.1;simp;omega,.inr ⟨g,cur,he,a',by omega,BM,dG,?_⟩⟩;rw [<-Af,List.take_take,Nat.min_eq_left (by omega),Nat.mul_one]
theorem akz (h:bu w zC 1 a n cap xs) (aD:i<n) (af:∀ u ∈ xs,single u=true) :
  bK 89 [.slice a n cap,.int .i64 i,.int .i64 (i+1:Nat)] w λv w'=>v=.slice a (n - 1) cap/\bu w' zC 1 a (n - 1) cap (xs.eraseIdx i)/\ay (a7 a) w w':=by
 refine bO Tryz.func89 ?_;rw [apD];have wq:=h.1;rcases h.2 with ⟨_,aN,_⟩ | ⟨g,cur,rfl,a',BY,BM,dG,Af⟩
 ·omega
 have aDK:cap<=9223372036854775807:=BM;refine sB (by omega) (by omega) (by omega) (by omega) BY ?_;intro qc _;refine gX (λhe=>by omega) (λ_=>?_)
 intro w1 br;have a1:ai w w1:=by rw [br];exact eh _
 clear br;refine sB (by omega) (by omega) (by omega) (by omega) BY ?_;intro aCi atV;refine sB (by omega) (by omega) (by omega) (by omega) BY ?_;intro aCj adL;have bY:aCi=some ⟨g,0,none⟩:=by rcases atV with e | ⟨_,e⟩<;>simpa using e
 subst bY;simp only [j_,Int.toNat_zero,Nat.sub_zero];obtain ⟨s2,rfl⟩:∃ s,aCj=some s:=by rcases adL with e | ⟨_,e⟩<;>exact ⟨_,e⟩
 obtain ⟨wX,yE,aE,cr,gm⟩:=j5 (T:=103) (z:=.pointer none) (n:=1) (m:=8) (by kernel_rfl);have Uu:bu w1 zC wX.size (some ⟨g,0,none⟩) i cap (xs.take i):=by rw [cr];exact bu.ayR (h.new a1) (by simp) (by omega)
 have jc:bW w1 (some s2) (xs.drop (i+1)):=by
  by_cases aC:xs.drop (i+1)=[]
  ·rw [aC];exact .inl rfl
  ·rcases adL with e | ⟨e,_⟩
   ·rw [e];have:=(h.new a1).rd.drop (i+1);simpa using this
   ·exfalso;apply aC;apply WS;omega
 obtain ⟨aS,fV,KG,eN⟩:=bu.aoV (P:=prog) (t:=106) (ty:=106) Tryz.underlying106 yE (by omega) Uu (s:=s2) (m:=n - (i+1)) (c:=cap - (i+1)) (news:=xs.drop (i+1)) (by rw [cr];simp;omega) jc
  (λu hu=>af u (A5 hu)) (by omega)
 rw [cr] at KG;have gE:i+(n - (i+1))=n - 1:=by omega
 rw [gE] at fV KG;refine ⟨_,_,_,aS,fV,?_⟩;refine sB (by omega) (by omega) (by omega) (by omega) (by omega) ?_;intro aCk atW;have dF:aCk=some ⟨g,0+(n - 1) * 1,none⟩:=by
  rcases atW with e | ⟨e,_⟩
  ·simpa using e
  ·omega
 subst dF;have z7:(Int.toNat (n:Int)) - Int.toNat ((n - 1:Nat):Int)=1:=by omega
 rw [z7];rcases KG.2 with ⟨aN,_⟩ | ⟨bI,aDc,ab4,uL,ase,aqL,yn,adt⟩
 ·cases aN
 simp at ab4;subst ab4;have kZ:ha aS ⟨g,0+(n - 1) * 1,none⟩ 0 [.pointer none]:=kA uL (by simp;omega) (by simp [single]);refine ⟨_,_,ah3 (P:=prog) Tryz.underlying106 yE aE rfl kZ,rfl,?_,?_⟩
 ·have ak:=uL.dO (o:=0+(n - 1) * 1) (i:=0) (vs:=[.pointer none]);have ao:xs.take i++xs.drop (i+1)=xs.eraseIdx i:=(List.eraseIdx_eq_take_drop_succ ..).symm;rw [ao] at KG adt;refine ⟨KG.1,.inr ⟨g,_,rfl,ak,ase,aqL,by rw [af1];exact yn,?_⟩⟩;rw [Ck (by simp;omega)];rw [<-adt];rw [ue,List.take_append_of_le_length (by simp;omega),List.take_take,Nat.min_eq_left (by omega)]
 ·exact ((ay.db a1).trans eN λk _ e=>⟨0,by rw [e]⟩).trans (nI _ _ _ _ _) λk _ e=>⟨0,by rw [e]⟩
def vl (b n:Nat) (t:Tag):Prop:=t=.nk b\/t=.word n
theorem aje {α:Type} {l:List α} (h:l.Nodup) {x:α} (aD:l[i]?=some x) (c_:l[j]?=some x):i=j:=by
 obtain ⟨af,al⟩:=uh.1 aD;obtain ⟨aL,ca⟩:=uh.1 c_;have ar:=WN.1 h;rcases Nat.lt_trichotomy i j with au | au | au
 ·exact absurd (al.trans ca.symm) (ar i j af aL au)
 ·exact au
 ·exact absurd (ca.trans al.symm) (ar j i aL af au)
theorem Qu {α β:Type} (f:α->β):∀ (l:List α) (i:Nat),(l.map f).eraseIdx i=(l.eraseIdx i).map f
 | [],_=>rfl
 | _::_,0=>rfl
 |x::l,i+1=>by simp [Qu f l i]
theorem c4.ayu {χ':Nat->Tag} (h:c4 A aG w a3 X) (aq:X.cN[i]?=some (b,p)) (az:X.nodes[n]?=some y)
  (J:ay (λk=>vl b n (aG k)) w w') (a':∀ k,k<w.heap.size->χ' k≠.dR->aG k≠.dR) (aX:∀ k,k<w.heap.size->aG k≠.nk b->χ' k=aG k) (oe:∀ k,χ' k≠.dR->k<w'.heap.size)
  (aj:gY w' y.b y.a4 n') (ar:gy (k0 A aG χ' w) w' b p') (aZ:∀ k,p'.mut b k->χ' k=.nk b) :
  Next A (k0 A aG χ' w) aG χ' w w'/\c4 (k0 A aG χ' w) χ' w' a3 { X with nodes:=X.nodes.set n { y with n:=n' },cN:=X.cN.set i (b,p') }:=by
 obtain ⟨m,ba⟩:=h.move (T:=vl b n) J (by simp [vl]) a' (λk aK aj _=>aX k aK λe=>aj (.inl e));have f1:=aF.eF m h.dt h.lu (by simp [vl]) (by simp);have f2:=bu.eF m h.nodes h.qE (by simp [vl]) (by simp);have f3:=bu.eF m h.km h.rv (by simp [vl]) (by simp);have f4:=aF.eF m h.cls h.i_ (by simp [vl]) (by simp);have lZ:=h.node n y az;have bY:(X.cN.set i (b,p')).map Prod.fst=X.cN.map Prod.fst:=by rw [oz];exact wy (by simp [aq])
 refine ⟨ba,m.vD,λk ab=>?_,?_,f1.2,?_,f2.2,?_,f4.1,f4.2,λq z aE=>(h.bw q z aE).eF m (λt af al=>?_),?_,f3.2,λx ao=>?_,?_⟩
 ·rcases ab with ab | ab
  ·exact oe k ab
  ·exact ks ab.1 J.size
 ·simpa [cF.cells] using f1.1
 ·have e:((X.nodes.set n { y with n:=n' }).map λx=>ptr x.b)=X.nodes.map λx=>ptr x.b:=by rw [oz];exact wy (by simp [az])
  rw [e];simpa using f2.1
 ·intro q z aE;simp only [oy] at aE;split at aE
  ·rename_i he;subst he;split at aE
   ·simp only [iX] at aE;subst aE;exact ⟨aj,by rw [aX _ lZ.node.node.lt (by rw [lZ.tag];simp)];exact lZ.tag,by rw [aX _ lZ.node.words.lt (by rw [lZ.qM];simp)];exact lZ.qM⟩
   ·cases aE
  ·rename_i he;exact (h.node q z aE).eF m (by simp [vl]) (by simp [vl];exact λe=>he e.symm)
 ·rcases al with e | e<;>(rw [e] at af;cases af)
 ·have e:((X.cN.set i (b,p')).map λp=>ptr p.1)=X.cN.map λp=>ptr p.1:=by rw [oz];exact wy (by simp [aq])
  rw [e];simpa using f3.1
 ·obtain ⟨k,J⟩:=hn.1 ao;simp only [oy] at J;split at J
  ·rename_i he;subst he;split at J
   ·simp only [iX] at J;subst J;exact ⟨ar,aZ⟩
   ·cases J
  ·rename_i he;have K1:=h.hB x (dn J);refine gy.eF m K1.1 K1.2 ?_ (by simp);rintro (e | e)
   ·simp at e;exact he (aje (x:=b) h.nodup (by simp [aq]) (by simp [J,e]))
   ·cases e
 ·show ((X.cN.set i (b,p')).map Prod.fst).Nodup;rw [bY];exact h.nodup
theorem c4.apk (h:c4 A aG w a3 X) (aD:i<X.cN.length) (J:ay (λk=>aG k=.km\/aG k=.dt) w w')
  (aq:bu w' zC 1 X.fZ (X.cN.length - 1) X.lC ((X.cN.map λp=>ptr p.1).eraseIdx i)) (aJ:aF w' a3 (X.cells.set 3 (.slice X.fZ (X.cN.length - 1) X.lC)) uo) :
  ∃ A',Next A A' aG aG w w'/\c4 A' aG w' a3 { X with cN:=X.cN.eraseIdx i }:=by
 obtain ⟨m,ba⟩:=h.move (T:=λt=>t=.km\/t=.dt) (χ':=aG) J (by simp) (λ_ _ h=>h) (λ_ _ _ _=>rfl);have au:(X.cN.eraseIdx i).length=X.cN.length - 1:=List.length_eraseIdx_of_lt aD;refine ⟨_,ba,m.vD,λk ab=>?_,?_,h.lu,(bu.eF m h.nodes h.qE (by simp) (by simp)).1,h.qE,λq z aE=>(h.node q z aE).eF m (by simp) (by simp),(aF.eF m h.cls h.i_ (by simp) (by simp)).1,h.i_,λq z aE=>(h.bw q z aE).eF m (λt af al=>?_),?_,h.rv,λx ao=>?_,?_⟩
 ·rcases ab with ab | ab
  ·exact ks (h.qB ab) J.size
  ·exact ks ab.1 J.size
 ·simpa [cF.cells,au] using aJ
 ·rcases al with e | e<;>(rw [e] at af;cases af)
 ·show bu w' zC 1 X.fZ (X.cN.eraseIdx i).length X.lC ((X.cN.eraseIdx i).map λp=>ptr p.1);rw [au,<-Qu];exact aq
 ·have K1:=h.hB x (Ra ao);exact gy.eF m K1.1 K1.2 (by simp) (by simp)
 ·show ((X.cN.eraseIdx i).map Prod.fst).Nodup;rw [<-Qu];exact (List.eraseIdx_sublist ..).nodup h.nodup
theorem ah4 (l:List (Nat×gh)):∀ u ∈ l.map (λp=>ptr p.1),single u=true:=by intro u hu;simp only [eQ] at hu;obtain ⟨p,_,rfl⟩:=hu;rfl
theorem amM (h:c4 A aG w a3 X) (c:Int) (ab:c<9223372036854775807):bK 62 [ptr a3,.int .i64 c] w λv w'=>
  v=.bool (X.pure.drop c).1/\gQ A aG w a3 (X.pure.drop c).2 w' λ_=>True:=by
 refine bO Tryz.func62 ?_;rw [ptr,av9];have O2:X.pure.cN.length=X.cN.length:=by simp [cF.pure]
 refine bL (λaN=>?_) (λaN=>⟨_,_,_,h.dt.cell rfl,bL (λaf=>?_) (λaf=>?_)⟩)
 ·have aC:X.pure.drop c=(false,X.pure):=by unfold a9.drop;rw [if_pos (.inl aN)]
  rw [aC];exact ⟨rfl,gQ.same h (ay.refl _ _) trivial⟩
 ·have aC:X.pure.drop c=(false,X.pure):=by unfold a9.drop;rw [if_pos (.inr (by omega))]
  rw [aC];exact ⟨rfl,gQ.same h (ay.refl _ _) trivial⟩
 ·have aC:X.pure.drop c=(true,{ X.pure with cN:=X.pure.cN.eraseIdx c.toNat }):=by unfold a9.drop;rw [if_neg (by omega)]
  rw [aC];obtain ⟨i,rfl⟩:∃ i:Nat,c=i:=⟨c.toNat,by omega⟩;refine ⟨_,_,_,h.dt.cell rfl,?_⟩;rw [show IntKind.i64.wrap ((i:Int)+1)=((i+1:Nat):Int) by rw [cn (by omega) (by omega)];rfl];refine aR (akz h.km (by omega) (ah4 _)) ?_;rintro v w1 ⟨rfl,Uu,hk⟩;have acp:ay (λk=>aG k=.km) w w1:=hk.mono λk _ ak=>h.rv k ak
  have yp:=acp.an h.dt (by rw [h.lu];simp);refine ⟨_,_,_,rfl,⟨_,yp.cell (i:=3) rfl⟩,yp.frozen,?_⟩;intro aS cG;have eN:ay (λk=>k=a3) w1 aS:=by rw [cG];exact iu _ _ _ _
  have z2:aF aS a3 (X.cells.set 3 (.slice X.fZ (X.cN.length - 1) X.lC)) uo:=by rw [cG];exact yp.setCell _
  clear cG;obtain ⟨A',ba,cM⟩:=h.apk (i:=i) (by omega) ((acp.mono λk _ e=>.inl e).trans eN λk _ e=>.inr (by rw [e];exact h.lu)) (Uu.aO eN λk ak e=>by have:=h.rv k ak;rw [e,h.lu] at this;cases this) z2;refine ⟨rfl,_,_,_,ba,cM,?_,trivial⟩;simp [cF.pure,Qu]
theorem gQ.trans {A iB:bB} {aG fm:Nat->Tag} {w w1 aS:av} {a3:Nat} {F:a9} {K:(bB)->Prop} (n:Next A iB aG fm w w1) (h:gQ iB fm w1 a3 F aS K):gQ A aG w a3 F aS K:=by obtain ⟨mz,qU,s6,j8,al,ar,f'⟩:=h;exact ⟨mz,qU,s6,n.trans j8,al,ar,f'⟩
theorem alA {e sz:Nat} (h:bu w e sz a n cap xs):n<=9223372036854775807:=by
 rcases h.2 with ⟨_,aN,_⟩ | ⟨g,cur,_,_,af,al,_⟩
 ·omega
 ·have:cap<=9223372036854775807:=al;omega
theorem ahf {α:Type} {l:List α} {x y:α} (h:l[i]?=some x):(l.set i y)[i]?=some y:=by simp [dy h]
theorem XM {α:Type}:∀ (l:List α) (i:Nat) (x:α),(l.set i x).eraseIdx i=l.eraseIdx i
 | [],_,_=>rfl
 | _::_,0,_=>rfl
 |y::l,i+1,x=>by simp [XM l i x]
theorem ahg (h:c4 A aG w a3 X) (b3:y' X.pure) (i:Nat):bK 69 [ptr a3,.int .i64 i] w λv w'=>
  v=.bool (X.pure.pz i).1/\gQ A aG w a3 (X.pure.pz i).2 w' λ_=>True:=by
 refine bO Tryz.func69 ?_;rw [ptr,av_];have O2:X.pure.cN.length=X.cN.length:=by simp [cF.pure]
 refine ⟨_,_,_,h.dt.cell rfl,bL (λaf=>?_) (λaf=>?_)⟩
 ·have aC:X.pure.pz i=(false,X.pure):=by unfold a9.pz;rw [ug (by omega)]
  rw [aC];exact ⟨rfl,gQ.same h (ay.refl _ _) trivial⟩
 have g2:i<X.cN.length:=by omega
 obtain ⟨b,p,aq⟩:∃ b p,X.cN[i]?=some (b,p):=⟨X.cN[i].1,X.cN[i].2,by simp [g2]⟩;have Uw:=h.hB _ (dn aq);obtain ⟨BX,a1,as8⟩:=b3.hB p.pure (dn (i:=i) (by simp [cF.pure,aq]));obtain ⟨n,aj⟩:∃ n:Nat,p.node=n:=⟨p.node.toNat,by have:p.pure.node=p.node:=rfl;omega⟩;have v5:n<X.nodes.length:=by
  have e:p.pure.node=p.node:=rfl;have bg:X.pure.nodes.length=X.nodes.length:=by simp [cF.pure]
  omega
 obtain ⟨y,az⟩:∃ y,X.nodes[n]?=some y:=⟨X.nodes[n],by simp [v5]⟩;have lZ:=h.node n y az;refine ⟨_,_,_,h.dt.cell rfl,?_⟩;refine HZ (v:=ptr b) (i:=i) h.km (by simp [aq]) rfl λch jl _=>⟨some ⟨b,0,none⟩,jl,?_⟩
 intro w1 br;have Eh:ai w w1:=by rw [br];exact eh _
 clear br;have mc:=h.new Eh;have KC:=mc.hB _ (dn aq);have K2:=mc.node n y az;refine ⟨λu=>ay (λk=>vl b n (aG k)) w1 u,ay.refl _ _,_,_,_,λu hu=>(hu.an mc.dt (by rw [mc.lu];simp [vl])).cell (i:=1) rfl,?_⟩;refine aR (YY KC.1) ?_;rintro r aS ⟨rfl,rfl⟩;refine ⟨_,rfl,ay.refl _ _,?_⟩;refine HZ (v:=ptr y.b) (i:=n) mc.nodes (by simp [az]) aj λaC6 aqI aqj=>⟨some ⟨y.b,0,none⟩,λu hu=>qn hu aqI ?_,?_⟩
 ·obtain ⟨g,a',rfl⟩:=aqj;rw [show aG _=_ from mc.qE g ⟨0,a'⟩];simp [vl]
 refine aR (Ze KC.1 K2.node (mc.iL _ (by rw [K2.qM];simp)) (mc.iL _ (by rw [K2.tag];simp)) (λak=>by have:=KC.2 _ (.inr (.inr ak));rw [K2.qM] at this;cases this) as8) ?_;intro r aY gl;obtain ⟨χ',d,p',rfl,hA,Ul,ek,TP,j2,z7,qy,S9,GH⟩:=Xh KC.1 KC.2 (by simp) (λk ab=>mc.qB ab) mc.iL K2.qM gl;obtain ⟨ba,k9⟩:=mc.ayu aq az ek TP j2 z7 Ul S9 qy;refine ⟨_,_,_,_,_,rfl,?_⟩;have yy:(X.cN.set i (b,p'))[i]?=some (b,p'):=ahf aq;refine aR (Qs (k9.hB _ (dn yy)).1) ?_;rintro r bZ ⟨rfl,rfl⟩;have cq:X.pure.pz i=(true,{ X.pure with nodes:=X.pure.nodes.set n (p.pure.step y.n).2.1,cN:=if (p.pure.step y.n).1.bN.length=0 then X.pure.cN.eraseIdx i else X.pure.cN.set i (p.pure.step y.n).1 }):=by
  unfold a9.pz;have bY:X.pure.cN[i]?=some p.pure:=by simp [cF.pure,aq]
  have bg:p.pure.node.toNat=n:=by show p.node.toNat=n;omega
  have dF:X.pure.nodes[n]?=some y.n:=by simp [cF.pure,az]
  simp only [bY,bg,dF]
 rw [cq];have aw:p'.bN=(p.pure.step y.n).1.bN:=by rw [<-hA];rfl
 refine ⟨_,rfl,gX (λaE=>?_) (λaE=>?_)⟩
 ·have ml:(p.pure.step y.n).1.bN.length=0:=by rw [<-aw];have Ex:(p'.bN.length:Int)=0:=aE;omega
  refine aR (amM k9 i (by have:=alA h.km;omega)) ?_;rintro v cK ⟨rfl,asP⟩;refine ⟨_,rfl,rfl,?_⟩;have ac8:=gQ.trans ((h.refl Eh).trans ba) asP;have e:(cF.pure { X with nodes:=X.nodes.set n { y with n:=(p.pure.step y.n).2.1 },cN:=X.cN.set i (b,p') }).drop i=(true,{ X.pure with nodes:=X.pure.nodes.set n (p.pure.step y.n).2.1,cN:=X.pure.cN.eraseIdx i }):=by unfold a9.drop;rw [if_neg (by simp [cF.pure];omega)];simp [cF.pure,oz,XM]
  rw [e] at ac8;rw [if_pos ml];exact ac8
 ·have ml:¬ (p.pure.step y.n).1.bN.length=0:=by rw [<-aw];have Ex:¬ (p'.bN.length:Int)=0:=aE;omega
  rw [if_neg ml];refine ⟨rfl,_,_,_,(h.refl Eh).trans ba,k9,?_,trivial⟩;simp [cF.pure,oz,hA]
theorem cF.ayv {c:dC} {l:fF} :
  (cF.pure { X with nodes:=X.nodes.set n { y with n:=n' },bl:=X.bl.set i { c with aU:=c.aU.set j { l with p:=p' } } }) =
   {X.pure with nodes:=X.pure.nodes.set n n',bl:=X.pure.bl.set i { c.pure with aU:=c.pure.aU.set j ⟨p'.pure,l.cP⟩ } }:=by
 simp [cF.pure,oz,dC.pure,fF.pure]
end
end Go.Proofs.YtmkljjbioomepaaGreat
