import Derived.Test.YtmkljjbioomepaaGreata09
set_option linter.all false
set_option maxHeartbeats 4000000
set_option maxRecDepth 100000
namespace Go.Proofs.YtmkljjbioomepaaGreat
open Go.Proofs.Tryz Go.b8
variable {A A':bB} {a:ax} {a3 i:Nat} {v:bx} {w w':av}
section
theorem Ze {M:bB} {b jN jx:Nat} {p:gh} {n:bt} (h:gy M w b p) (aj:gY w jN jx n) (uO:M jx) (tp:M jN) (adJ:¬ a7 p.fw jx) (aA:p.pure.nr) :
  bK 70 [.pointer (some ⟨b,0,none⟩),.pointer (some ⟨jN,0,none⟩)] w (QK M b jN jx p n w):=by
 refine bO Tryz.func70 ?_;rw [axN];rintro b1 w1 bA br;obtain ⟨yo,a1⟩:=b4 bA br;have fI:w1.heap.size=w.heap.size+1:=by rw [br];simp
 clear br;have kh:=h.new a1;have aDu:=aj.new a1;have mg:=h.an.lt;have v5:=aj.node.lt;have aD9:=aj.words.lt;have KY:∀ k,a7 p.fw k->k<w.heap.size:=λk J=>h.rI.lt J
 have il:∀ k,a7 p.e5 k->k<w.heap.size:=λk J=>h.own.lt J
 refine ⟨_,_,_,kh.an.cell rfl,gX (λhe=>?_) (λhe=>?_)⟩
 ·have ss:p.bN=[]:=jR (by omega);have cq:p.pure.step n=(p.pure,n,none):=akw ss;refine ⟨kA (vs:=cL.cells ⟨0,none,0,0⟩) yo (by simp [cL.cells]) (cL.single _),?_⟩;intro aS cG;obtain ⟨GG,a5⟩:=Av (vs:=cL.cells ⟨0,none,0,0⟩) yo (by simp [cL.cells]) a1 (by omega) cG;refine IP (d:=⟨0,none,0,0⟩) (HU GG) ⟨rfl,⟨0,none,0,0⟩,p,?_,?_,?_,?_,?_,?_,ay.db a5,.inl rfl,.inl rfl,?_⟩
  ·rw [cq];rfl
  ·rw [cq]
  ·rw [cq];exact aj.new a5
  ·rw [cq];intro x ao;cases ao
  ·rintro k ⟨o,aq⟩;cases aq
  ·intro M' uF g4;refine (h.new a5).wP (λk _ J=>?_) g4;rcases uF k J with J | J | J
   ·exact J.2
   ·exact h.oT k (.inr (.inl J))
   ·exact h.oT k (.inr (.inr J))
  ·rintro k ⟨o,aq⟩;cases aq
 obtain ⟨x,xs,tB⟩:∃ x xs,p.bN=x::xs:=by
  cases ar:p.bN with
  |nil=>rw [ar] at he;simp at he
  |cons x xs=>exact ⟨x,xs,rfl⟩
 obtain ⟨v,vs,eb⟩:∃ v vs,p.raw=v::vs:=by
  cases ar:p.raw with
  |nil=>have:=h.vs.1;rw [ar,tB] at this;simp at this
  |cons v vs=>exact ⟨v,vs,rfl⟩
 have aw:ei M w v x:=h.vs.2 0 v x (by rw [eb];rfl) (by rw [tB];rfl);have cq:=ai' (p:=p.pure) (n:=n) tB;refine ⟨_,_,_,kh.an.cell rfl,?_⟩;obtain ⟨lP,fZ,j4,m5,gD⟩:=kh.own.rd.row (Lx p.raw) (by omega) (i:=0) (r:=v.cells) (by rw [eb];rfl);rw [j4];refine hc (by omega) (by omega) ?_;refine py (v:=v) (by simpa using m5) ?_;rintro aP aY cv dY;obtain ⟨cx,bf⟩:=b4 cv dY;have j2:aY.heap.size=w.heap.size+2:=by rw [dY];simp [fI]
 clear dY;refine ⟨kA (vs:=a0.cells v) cx (by simp [a0.cells]) (a0.single v),?_⟩;intro bZ eE;have pq:bZ.heap.size=w.heap.size+2:=by rw [eE,WG,j2]
 obtain ⟨Ai,bz⟩:=Av (vs:=a0.cells v) cx (by simp [a0.cells]) bf (by omega) eE;clear eE cx;have sm:Go.b8.ai w bZ:=a1.new bz;have TG:=ai.an bz yo;refine py (v:=v) (l4 Ai) ?_;refine aR (ain (h.new sm) (aj.new sm) (aw.aO (ay.db sm) λ_ _ h=>h)) ?_;rintro r cK ⟨rfl,g_⟩;have B1:=sm.new g_;have OD:=ai.an g_ TG;have Pp:=ai.an g_ Ai;have nQ:=g_.size;have Tf:b1≠b:=by omega
 have Kr:∀ k,p.mut b k->k<w.heap.size:=λk J=>by
  rcases J with rfl | J | J
  ·exact mg
  ·exact il k J
  ·exact KY k J
 have ed:gy (λk=>(k<w.heap.size/\M k)\/k=b1) cK b p:=by
  refine (h.wP (λk aK J=>?_) (λk J=>.inl ⟨Kr k J,h.oT k J⟩)).new B1;rcases J with J | J
  ·exact J.2
  ·omega
 have aDy:aP≠b:=by omega
 refine ⟨_,rfl,fX (λcj=>?_) (λaE=>?_)⟩
 ·
  rw [if_pos cj] at cq;refine aR (W7 ed (by rw [tB];simp)) ?_;rintro r dh ⟨rfl,e5,jQ,rh,eu,ke⟩;have ab1:=eu.an OD Tf;refine ⟨rfl,kA (vs:=cL.cells ⟨p.pure.refusal x n,none,0,0⟩) ab1 (by simp [cL.cells]) (cL.single _),?_⟩;intro cR kj;have aqZ:aF cR b1 (cL.cells ⟨p.pure.refusal x n,none,0,0⟩) o9:=by rw [kj];have:=ab1.dO (o:=0) (i:=0) (vs:=cL.cells ⟨p.pure.refusal x n,none,0,0⟩);rw [Cf (by simp [cL.cells])] at this;exact this
  have eD:ay (λk=>k=b1) dh cR:=by rw [kj];exact nI _ _ _ _ _
  clear kj;have z6:ay (λk=>k=b) w cR:=((ay.db B1).trans eu λ_ _ h=>h).trans eD λk J he=>by omega
  refine IP (d:=⟨p.pure.refusal x n,none,0,0⟩) (HU aqZ) ⟨rfl,⟨p.pure.refusal x n,none,0,0⟩,p.done e5 jQ,?_,?_,?_,?_,?_,?_,z6.mono (λk _ e=>.inl e),.inr ?_,?_,?_⟩
  ·rw [cq];rfl
  ·rw [cq];rfl
  ·rw [cq];refine aj.aO z6 (λe=>?_) (λe=>?_)
   ·have:=aF.pA aj.node (e▸h.an);revert this;decide
   ·have:=aF.pA aj.words (e▸h.an);revert this;decide
  ·rw [cq];intro y az;simp only [iX] at az;subst az;exact ⟨rfl,rfl,bW.nil _ _,λ_=>rfl,by simp,by simp,rfl⟩
  ·rintro k ⟨o,aq⟩;cases aq
  ·intro M' uF g4;have kH:=rh (λk=>M' k\/k=b1) (λk J=>?_) (λk J=>.inl (g4 k J))
   ·refine (kH.aO eD (λk J he=>?_) (λk he=>.inr he)).wP (λk _ J=>.inl J) g4;rcases J with J | J | ⟨o,aq⟩
    ·omega
    ·have:=ke k J;omega
    ·cases aq
   ·rcases J with J | J
    ·rcases uF k J with dQ | dQ | ⟨o,aq⟩
     ·exact .inl ⟨by omega,.inl dQ⟩
     ·exact .inr dQ
     ·cases aq
    ·exact .inl ⟨by omega,.inr J⟩
  ·intro k J;have:=ke k J;omega
  ·right;rintro k ⟨o,aq⟩;cases aq
  ·rintro k ⟨o,aq⟩;cases aq
 ·
  rw [if_neg (λab=>ab aE)] at cq;obtain ⟨rk,Pl⟩:=agS aE;obtain ⟨aqM,J7⟩:=Qo Pl;have gE:=Ce J7;have aD8:=aj.len;have g3:x.v.ft=(x.at_+x.v.count - 1) / 8:=rfl;have ez:x.v.cY=x.at_:=rfl;have sf:x.at_+x.v.count<=n.words.length:=by have af:=gE.2.2.2.2.2.2.2.2.2.1;rw [g3] at af;omega
  have po:=aA x xs tB;have UC:x.v.pieces[p.cu]?=some (x.v.pieces.getD p.cu (0,0)):=by have:p.cu<x.v.pieces.length:=po;simp [this]
  have G6:x.v.pieces.length<=1024:=by have:=P0 x.v.count.toNat x.v.cY x.v.count;have al:=gE.2.2.2.2.2.2.2.2.1;show (mW _ _ _).length<=1024;omega
  have Em:=VE x.v.count.toNat x.v.cY x.v.count (by omega) _ (dn UC);have asF:p.pure.cu=p.cu:=rfl;rw [asF] at cq;generalize aEa:x.v.pieces.getD p.cu (0,0)=pc at UC Em cq;refine py (v:=v) (l4 Pp) ?_;refine aR (akq _ v (by rw [aw.at_];omega) (by rw [aw.at_];omega) (by rw [aw.count];exact aqM) (by rw [aw.count];omega)) ?_;rintro r e6 ⟨pa,aER,rfl,ac9,fe,iQ⟩;rw [aw.pieces] at ac9;refine ⟨_,_,_,rfl,?_⟩;intro hD uZ;have fK:Go.b8.ai e6 hD:=by rw [uZ];exact eh _
  clear uZ;have OZ:=(B1.new fe).new fK;have BT:=fe.new fK;have Pb:=BT.size;have G5:=ed.new BT;have ap8:=aj.new OZ;have aq1:=ai.an BT OD;have atU:=ai.an BT Pp;have asR:=ac9.new fK;have JP:b≠jx:=by intro e;have:=aF.pA aj.words (e▸h.an);revert this;decide
  have Tm:¬ a7 p.fw b:=by intro ab;obtain ⟨cs,dG⟩:=jX h.rI ab;have:=aF.pA dG h.an;revert this;decide
  obtain ⟨VF,ae3,mi,_,asW⟩:=asR.row (aiA _) (by omega) (aiB UC);have UI:cK.heap.size<=VF:=by have:=iQ VF (by rw [mi];exact ⟨ae3,rfl⟩);exact this
  have asZ:∀ u,ay (λk=>k=jx\/a7 p.fw k) hD u->df u ⟨VF,ae3+p.cu * 2,none⟩ 0 [.int .i64 pc.1,.int .i64 pc.2]:=by
   intro u hu;refine td λj bX c_=>qn hu ?_ ?_
   ·have:=asW j bX c_;simpa using this
   ·rintro (ab | ab)
    ·simp at ab <;> omega
    ·have:=KY _ ab;simp at this <;> omega
  refine ⟨λu=>ay (λk=>k=jx\/a7 p.fw k) hD u,ay.refl _ _,_,_,_,λu hu=>(hu.an G5.an (λab=>ab.elim JP Tm)).cell rfl,
   wU (v:=v) (λu hu=>l4 (hu.an atU (λab=>ab.elim (λe=>by omega) (λe=>by have:=KY _ e;omega)))) ⟨_,λu hu=>(hu.an G5.an (λab=>ab.elim JP Tm)).cell rfl,?_⟩⟩
  rw [mi];have ara:p.cu<x.v.pieces.length:=po;refine hc (by omega) (by rw [aw.pieces];omega) ⟨pc.1,pc.2,λu hu=>by simpa using asZ u hu,?_⟩;have wj:ei M hD v x:=aw.aO (ay.db OZ) λ_ _ h=>h
  have asq:x.words=[]\/kR (λk=>k=jx) v.Words:=by
   rcases aw.off with aq | aq
   ·exact .inl aq
   ·refine .inr ?_;cases ig:v.Words with
    |none=>trivial
    |some a=>rw [ig] at aq;intro ab;exact aq (by rw [ab];exact uO)
  refine aR (ai_ ap8 rk wj asq (by rw [<-ez];exact Em.1) Em.2.1 Em.2.2.1 (by rw [<-ez];exact Em.2.2.2) (by omega) sf) ?_;rintro r hZ ⟨r2,apo,rfl,ab6,aDM,abv,D5⟩;have TK:=alx aj x pc;have aq_:=akx (x:=x) (n:=n) Em.2.2.1 Em.2.1;generalize aI:exec x pc n=E at ab6 abv cq TK aq_;have aEj:=D5.size;refine ⟨_,_,_,rfl,D5.mono (λk _ e=>.inl e),?_⟩;have Uy:gy (λk=>(k<w.heap.size/\M k)\/k=b1) hZ b p:=by
   refine G5.aO D5 (λk J he=>?_) (λk he=>.inl ⟨by omega,by rw [he];exact uO⟩);rcases J with J | J | J
   ·exact JP (J.symm.trans he)
   ·obtain ⟨cs,dG⟩:=jX h.own J;have:=aF.pA dG (he▸aj.words);revert this;decide
   ·exact adJ (he▸J)
  have aEF:=h.sU;obtain ⟨inf,aD,ml,cr,gm⟩:=j5 (T:=Dl) (z:=.int .u64 0) (n:=1) (m:=8) (by kernel_rfl);have cV:=Uy.rI;rw [<-cr] at cV;obtain ⟨ap,bU,kq,fV,KF,tn,fC⟩:=cV.append (P:=prog) (t:=94) (ty:=94) Tryz.underlying94 aD ml (by rw [cr];rfl) (by omega)
   (s:=r2) (m:=E.2.length) (c:=apo) (news:=us E.2) (by rw [cr,m9];omega) ab6 (Cl _) (by omega) (by rw [gm];omega)
  rw [cr,Wx] at KF;refine ⟨ap,p.words.length+E.2.length,bU,kq,fV,(D5.mono (λk _ e=>.inl e)).trans tn (λk _ J=>.inr J),?_⟩;have yh:aF kq b p.cells Dj:=tn.an Uy.an Tm;refine ⟨⟨_,yh.cell rfl⟩,yh.frozen,?_⟩;intro mx tA;have pS:ay (λk=>k=b) kq mx:=by rw [tA];exact iu _ _ _ _
  have sd:aF mx b (p.cells.set 5 (.slice ap (p.words.length+E.2.length) bU)) Dj:=by rw [tA];exact yh.setCell _
  clear tA;refine ⟨_,sd.cell rfl,⟨_,sd.cell rfl⟩,sd.frozen,?_⟩;intro nu Pm;have D6:ay (λk=>k=b) mx nu:=by rw [Pm];exact iu _ _ _ _
  have apx:IntKind.i64.wrap ((p.cu:Int)+1)=((p.cu+1:Nat):Int):=by rw [cn (by omega) (by omega)];rfl
  rw [apx] at Pm;have yi:aF nu b ((p.cells.set 5 (.slice ap (p.words.length+E.2.length) bU)).set 4 (.int .i64 (p.cu+1:Nat))) Dj:=by rw [Pm];exact sd.setCell _
  clear Pm;have qv:ap=p.fw\/∀ k,a7 ap k->cK.heap.size<=k:=by
   rcases fC with fC | fC
   ·exact .inl fC
   ·refine .inr ?_;rintro k ⟨o,aq⟩;rw [fC] at aq;simp at aq <;> omega
  have TZ:ay (λk=>k=b\/a7 p.fw k) hZ nu:=((tn.mono λk _ J=>.inr J).trans pS λk _ J=>.inl J).trans D6 λk _ J=>.inl J
  have OM:ay (λk=>k=b\/a7 p.fw k\/k=jx) hD nu:=(D5.mono λk _ J=>.inr (.inr J)).trans TZ λk _ J=>J.elim .inl λe=>.inr (.inl e)
  have abw:gY nu jN jx E.1:=by
   refine abv.aO TZ ?_ ?_
   ·rintro (e | e)
    ·have:=aF.pA aj.node (e▸h.an);revert this;decide
    ·obtain ⟨cs,dG⟩:=jX h.rI e;have:=aF.pA dG aj.node;revert this;decide
   ·rintro (e | e)
    ·exact JP e.symm
    ·exact adJ e
  have OC:aF nu b1 _ o9:=OM.an aq1 (by rintro (e | e | e);exact Tf e;have:=KY _ e;omega;omega);have acZ:gy (λk=>((k<w.heap.size/\M k)\/k=b1)\/a7 ap k) nu b { p with cu:=p.cu+1,words:=p.words++E.2,fw:=ap,h0:=bU }:=by
   have GW:∀ k,p.mut b k->k<w.heap.size/\M k:=λk J=>⟨Kr k J,h.oT k J⟩
   have U2:∀ k,a7 p.e5 k->¬ (k=b\/a7 p.fw k):=by
    rintro k J (e | e)
    ·obtain ⟨cs,dG⟩:=jX h.own J;have:=aF.pA dG (e▸h.an);revert this;decide
    ·obtain ⟨cs,dG⟩:=jX h.own J;obtain ⟨mY,aqS⟩:=jX h.rI e;have:=aF.pA dG aqS;revert this;decide
   have GB:∀ k,a7 ap k->k≠b:=by rintro k J e;obtain ⟨cs,dG⟩:=jX KF J;have:=aF.pA dG (e▸yh);revert this;decide
   refine ⟨?_,Uy.own.aO TZ U2,?_,?_,h.bw,h.inc,h.node,h.len,?_,h.w5,?_,?_,?_⟩
   ·have e:gh.cells { p with cu:=p.cu+1,words:=p.words++E.2,fw:=ap,h0:=bU }=(p.cells.set 5 (.slice ap (p.words.length+E.2.length) bU)).set 4 (.int .i64 (p.cu+1:Nat)):=by simp only [gh.cells,gp];rfl
    rw [e];exact yi
   ·show bu nu Dl 1 ap (p.words++E.2).length bU (us (p.words++E.2));rw [gp];exact (KF.aO pS GB).aO D6 GB
   ·show hp _ nu p.raw p.bN;refine h.vs.aO ((ay.db OZ).trans (M:=M) OM ?_) ?_
    ·rintro k _ (e | e | e)
     ·exact h.oT k (.inl e)
     ·exact h.oT k (.inr (.inr e))
     ·rw [e];exact uO
    ·rintro k aK ((J | J) | J)
     ·exact J.2
     ·omega
     ·rcases qv with e | e
      ·exact h.oT k (.inr (.inr (e▸J)))
      ·have:=e k J;omega
   ·show (p.words++E.2).length<=8 * (p.cu+1);rw [gp];omega
   ·show match p.bN with | []=>p.cu+1=0 | x::_=>p.cu+1<=x.v.pieces.length
    rw [tB];exact ara
   ·intro u hu;rcases qT.1 hu with hu | hu
    ·exact h.H5 u hu
    ·exact TK u hu
   ·rintro k (e | e | e)
    ·exact .inl (.inl (GW k (.inl e)))
    ·exact .inl (.inl (GW k (.inr (.inl e))))
    ·exact .inr e
  have atl:=OM.size;have Om:∀ k,a7 ap k->k≠b1:=by
   intro k J e;rcases qv with af | af
   ·have:=KY k (af▸J);omega
   ·have:=af k J;omega
  have GB:∀ k,a7 ap k->k≠b:=by rintro k J e;obtain ⟨cs,dG⟩:=jX KF J;have:=aF.pA dG (e▸yh);revert this;decide
  have acw:ay (λk=>k=b\/a7 p.fw k\/k=jx) w nu:=(ay.db OZ).trans OM λ_ _ h=>h
  refine ⟨_,yi.cell rfl,?_⟩;rw [aw.pieces];refine bL (λaK=>?_) (λhQ=>?_)
  ·
   have hR:p.cu+1<x.v.pieces.length:=by omega
   rw [if_pos hR] at cq;refine ⟨kA (vs:=cL.cells ⟨0,none,0,0⟩) OC (by simp [cL.cells]) (cL.single _),?_⟩;intro rH Eu;have aqX:aF rH b1 (cL.cells ⟨0,none,0,0⟩) o9:=by rw [Eu];have:=OC.dO (o:=0) (i:=0) (vs:=cL.cells ⟨0,none,0,0⟩);rw [Cf (by simp [cL.cells])] at this;exact this
   have z4:ay (λk=>k=b1) nu rH:=by rw [Eu];exact nI _ _ _ _ _
   clear Eu;refine IP (d:=⟨0,none,0,0⟩) (HU aqX) ⟨rfl,⟨0,none,0,0⟩,{ p with cu:=p.cu+1,words:=p.words++E.2,fw:=ap,h0:=bU },?_,?_,?_,?_,?_,?_,?_,.inl rfl,?_,?_⟩
   ·rw [cq];rfl
   ·rw [cq];rfl
   ·rw [cq];refine abw.aO z4 (λe=>?_) (λe=>?_)
    ·omega
    ·omega
   ·rw [cq];intro y az;cases az
   ·rintro k ⟨o,aq⟩;cases aq
   ·intro M' uF g4;refine (acZ.aO z4 (λk J he=>?_) (λk he=>.inl (.inr he))).wP (λk _ J=>?_) g4
    ·rcases J with J | J | J
     ·omega
     ·have:=il k J;omega
     ·exact Om k J he
    ·rcases uF k J with J | J | J
     ·exact .inl (.inl J)
     ·exact .inl (.inl ⟨il k J,h.oT k (.inr (.inl J))⟩)
     ·exact .inr J
   ·exact acw.trans z4 λk J e=>by omega
   ·rcases qv with af | af
    ·exact .inl af
    ·exact .inr λk J=>by have:=af k J;omega
   ·rintro k ⟨o,aq⟩;cases aq
  ·
   have art:¬ p.cu+1<x.v.pieces.length:=by omega
   rw [if_neg art] at cq;refine ⟨_,_,_,yi.cell rfl,kA (vs:=cL.cells ⟨0,ap,p.words.length+E.2.length,bU⟩) OC (by simp [cL.cells]) (cL.single _),?_⟩;intro E8 KX;have aqY:aF E8 b1 (cL.cells ⟨0,ap,p.words.length+E.2.length,bU⟩) o9:=by rw [KX];have:=OC.dO (o:=0) (i:=0) (vs:=cL.cells ⟨0,ap,p.words.length+E.2.length,bU⟩);rw [Cf (by simp [cL.cells])] at this;exact this
   have BS:ay (λk=>k=b1) nu E8:=by rw [KX];exact nI _ _ _ _ _
   clear KX;have adk:=BS.size;have asz:=acZ.aO BS (λk J he=>by
    rcases J with J | J | J
    ·omega
    ·have:=il k J;omega
    ·exact Om k J he) (λk he=>.inl (.inr he))
   refine aR (W7 asz (by show p.bN≠[];rw [tB];simp)) ?_;rintro r LG ⟨rfl,e5,jQ,rh,Kd,ab7⟩;have adl:=Kd.size;have TE:=Kd.an aqY Tf;refine ⟨rfl,IP (d:=⟨0,ap,p.words.length+E.2.length,bU⟩) (HU TE) ⟨kA (vs:=cL.cells ⟨0,ap,p.words.length+E.2.length,bU⟩) TE (by simp [cL.cells]) (cL.single _),?_⟩⟩;intro w7 Ha;have TF:aF w7 b1 (cL.cells ⟨0,ap,p.words.length+E.2.length,bU⟩) o9:=by rw [Ha];have:=TE.dO (o:=0) (i:=0) (vs:=cL.cells ⟨0,ap,p.words.length+E.2.length,bU⟩);rw [Cf (by simp [cL.cells])] at this;exact this
   have D7:ay (λk=>k=b1) LG w7:=by rw [Ha];exact nI _ _ _ _ _
   clear Ha;have O6:bu w7 Dl 1 ap (p.words.length+E.2.length) bU (us (p.words++E.2)):=
    (((((KF.aO pS GB).aO D6 GB).aO BS Om).aO Kd GB).aO D7 Om)
   have z6:ay (λk=>k=b\/a7 p.fw k\/k=jx) w w7:=
    ((acw.trans BS λk J e=>by omega).trans Kd λk _ e=>.inl e).trans D7 λk J e=>by omega
   refine IP (d:=⟨0,ap,p.words.length+E.2.length,bU⟩) (HU TF) ⟨rfl,⟨0,ap,p.words.length+E.2.length,bU⟩,gh.done { p with cu:=p.cu+1,words:=p.words++E.2,fw:=ap,h0:=bU } e5 jQ,?_,?_,?_,?_,?_,?_,z6,.inr ?_,.inr ?_,?_⟩
   ·rw [cq];rfl
   ·rw [cq];rfl
   ·rw [cq];refine ((abw.aO BS (λe=>by omega) (λe=>by omega)).aO Kd (λe=>?_) (λe=>JP e.symm)).aO D7 (λe=>by omega) (λe=>by omega);have:=aF.pA aj.node (e▸h.an);revert this;decide
   ·rw [cq];intro y az;simp only [iX] at az;subst az;refine ⟨rfl,by simp [gh.pure],O6.rd,?_,?_,O6.le,rfl⟩
    ·intro ab;rcases O6.2 with ⟨_,aN,_⟩ | ⟨g,cur,aN,_⟩
     ·exact jR (by simpa [gh.pure] using aN)
     ·rw [show ap=none from ab] at aN;cases aN
    ·intro u hu;rcases qT.1 hu with hu | hu
     ·exact h.H5 u hu
     ·exact TK u hu
   ·intro k J;rcases qv with af | af
    ·exact .inl (af▸J)
    ·have:=af k J;exact .inr (by omega)
   ·intro M' uF g4;have kH:=rh (λk=>M' k\/k=b1) (λk J=>?_) (λk J=>.inl (g4 k J))
    ·refine (kH.aO D7 (λk J he=>?_) (λk he=>.inr he)).wP (λk _ J=>.inl J) g4;rcases J with J | J | ⟨o,aq⟩
     ·omega
     ·have:=ab7 k J;omega
     ·cases aq
    ·rcases J with J | J
     ·rcases uF k J with dQ | dQ | ⟨o,aq⟩
      ·exact .inl ⟨by omega,.inl (.inl dQ)⟩
      ·exact .inr dQ
      ·cases aq
     ·exact .inl ⟨by omega,.inl (.inr J)⟩
   ·intro k J;have:=ab7 k J;omega
   ·rintro k ⟨o,aq⟩;cases aq
   ·intro k J;exact jX O6 J
end
section
structure eM where
 pair:fx
 cP:eI
structure cT where
 alive:Bool
 inc:Int
 aU:List eM
 batch:Option (List a_)
 waiting:Nat
 sN:Int
 yQ:Int
structure a9 where
 lines:Nat
 nodes:List bt
 bl:List cT
 cN:List fx
structure js where
 hB:Int
 bw:Int
 node:Int
def a9.fE (F:a9) (c:Int):Option cT:=if c<0 then none else F.bl[c.toNat]?
def a9.nd (F:a9) (i:Int):Option bt:=if i<0 then none else F.nodes[i.toNat]?
def cT.k3 (C:cT) (k:Nat) (v:bn):cT:=
 {C with aU:=C.aU.modify v.node.toNat λl=>⟨{ l.pair with bN:=l.pair.bN++[v] },l.cP++[k]⟩ }
def cT.lF (C:cT) (k:Nat):List bn->cT
 | []=>C
 |v::vs=>(C.k3 k v).lF (k+1) vs
def qs (nodes lines:Int):List bn->Int
 | []=>0
 |v::vs=>if v.v.valid nodes lines≠0 then v.v.valid nodes lines else qs nodes lines vs
def cT.sI (C:cT) (vs:List bn):cT:=
 {(C.lF 0 vs) with batch:=some (List.replicate vs.length ⟨0,[]⟩),waiting:=vs.length,sN:=IntKind.i64.wrap (C.sN+1),yQ:=IntKind.i64.wrap (C.yQ+vs.length) }
def a9.jy (F:a9) (c:Int) (C:cT):a9:={ F with bl:=F.bl.set c.toNat C }
def a9.post (F:a9) (c:Int) (vs:List bn):Int×a9:=
 match F.fE c with
 |none=>(1,F)
 |some C=>
  if C.alive=false then (1,F) else if C.batch.isSome then (3,F) else if vs.length=0 then (1,F) else if vs.length>1024 then (18,F)
  else if qs F.nodes.length F.lines vs≠0 then (qs F.nodes.length F.lines vs,F)
  else (0,F.jy c (C.sI vs))
def a9.waiting (F:a9) (c:Int):Nat:=match F.fE c with
 |none=>0
 |some C=>C.waiting
def a9.alive (F:a9) (c:Int):Bool:=match F.fE c with
 |none=>false
 |some C=>C.alive
def a9.sN (F:a9) (c:Int):Int:=match F.fE c with
 |none=>0
 |some C=>C.sN
def a9.take (F:a9) (c:Int):Option (List a_)×a9:=
 match F.fE c with
 |none=>(none,F)
 |some C=>if C.alive=false then (none,F) else match C.batch with
  |none=>(none,F)
  |some ds=>if 0<C.waiting then (none,F) else (some ds,F.jy c { C with batch:=none })
def s_ (i:Nat):Nat->List eM->List js
 | _,[]=>[]
 |j,l::ls=>(if 0<l.pair.bN.length then [⟨-1,i,j⟩] else [])++s_ i (j+1) ls
def q1:Nat->List cT->List js
 | _,[]=>[]
 |i,c::cs=>s_ i 0 c.aU++q1 (i+1) cs
def vN:Nat->List fx->List js
 | _,[]=>[]
 |i,p::dA=>⟨i,p.bw,p.node⟩::vN (i+1) dA
def a9.gz (F:a9):List js:=q1 0 F.bl++vN 0 F.cN
def a9.drop (F:a9) (i:Int):Bool×a9:=if i<0\/F.cN.length<=i.toNat then (false,F) else (true,{ F with cN:=F.cN.eraseIdx i.toNat })
def a9.pz (F:a9) (i:Nat):Bool×a9:=
 match F.cN[i]? with
 |none=>(false,F)
 |some p=>match F.nodes[p.node.toNat]? with
  |none=>(false,F)
  |some n=>
   let r:=p.step n;let ew:={ F with nodes:=F.nodes.set p.node.toNat r.2.1,cN:=if r.1.bN.length=0 then F.cN.eraseIdx i else F.cN.set i r.1 }
   (true,ew)
def cT.comes (C:cT) (j:Nat) (l:eM) (p:fx):Option a_->cT
 |none=>{ C with aU:=C.aU.set j { l with pair:=p } }
 |some d=>{ C with aU:=C.aU.set j ⟨p,l.cP.tail⟩,batch:=C.batch.map λds=>ds.set (l.cP.headD 0) d,waiting:=C.waiting - 1 }
def a9.step (F:a9) (x:js):Bool×a9:=
 if 0<=x.hB then F.pz x.hB.toNat
 else if x.hB < -1 then (false,F)
 else match F.fE x.bw with
  |none=>(false,F)
  |some C=>if x.node<0 then (false,F) else match C.aU[x.node.toNat]?,F.nodes[x.node.toNat]? with
   |some l,some n=>if l.pair.bN.length=0 then (false,F) else
    let r:=l.pair.step n
    (true,{ F with nodes:=F.nodes.set x.node.toNat r.2.1,bl:=F.bl.set x.bw.toNat (C.comes x.node.toNat l r.1 r.2.2) })
   | _,_=>(false,F)
def a9.die (F:a9) (c:Int):Bool×a9:=
 match F.fE c with
 |none=>(false,F)
 |some C=>if C.alive=false then (false,F) else
  (true,{ F with cN:=F.cN++(C.aU.map eM.pair).filter (λp=>decide (0<p.bN.length)),bl:=F.bl.set c.toNat { C with alive:=false,aU:=[],batch:=none,waiting:=0 } })
structure RY (i:Nat) (inc:Int) (j:Nat) (len:Nat) (l:eM):Prop where
 bw:l.pair.bw=i
 inc:l.pair.inc=inc
 node:l.pair.node=j
 cP:l.cP.length=l.pair.bN.length
 low:∀ k ∈ l.cP,k<len
 nr:l.pair.nr
def l1 (ls:List eM):Nat:=(ls.map λl=>l.pair.bN.length).sum
structure Iq (n:Nat) (i:Nat) (C:cT):Prop where
 inc:0<=C.inc/\C.inc<=59
 aU:C.aU.length=if C.alive then n else 0
 lane:∀ (j:Nat) (l:eM),C.aU[j]?=some l->RY i C.inc j (C.batch.getD []).length l
 waiting:C.waiting=l1 C.aU
 batch:C.waiting<=(C.batch.getD []).length/\(C.batch.getD []).length<=1024
 full:∀ ds,C.batch=some ds->0<ds.length
structure y' (F:a9):Prop where
 lines:1<=F.lines/\F.lines<=256
 nodes:1<=F.nodes.length/\F.nodes.length<=5
 words:∀ n ∈ F.nodes,n.words.length=F.lines * 8
 bl:1<=F.bl.length/\F.bl.length<=6
 bw:∀ (i:Nat) (C:cT),F.bl[i]?=some C->Iq F.nodes.length i C
 hB:∀ p ∈ F.cN,0<=p.node/\p.node<F.nodes.length/\p.nr
inductive Tag where
 |dR
 |dt
 |nodes
 |node (i:Nat)
 |word (i:Nat)
 |bl
 |aU (c:Nat)
 |lane (c n:Nat)
 |cP (c n:Nat)
 |batch (c:Nat)
 |km
 |nk (b:Nat)
def oV (c:Nat):Tag->Prop
 | .aU i=>i=c
 | .lane i _=>i=c
 | .cP i _=>i=c
 | .batch i=>i=c
 | _=>False
structure fF where
 pb:Nat
 p:gh
 cP:eI
 sG:ax
 tP:Nat
def fF.pure (l:fF):eM:=⟨l.p.pure,l.cP⟩
def fF.cells (l:fF):aH:=[.pointer (some ⟨l.pb,0,none⟩),.slice l.sG l.cP.length l.tP]
structure dC where
 alive:Bool
 inc:Int
 aU:List fF
 la:ax
 lc:Nat
 fD:Option Nat
 raw:List cL
 batch:List a_
 waiting:Nat
 sN:Int
 yQ:Int
def dC.pure (c:dC):cT:=⟨c.alive,c.inc,c.aU.map fF.pure,c.fD.map λ_=>c.batch,c.waiting,c.sN,c.yQ⟩
def dC.cells (c:dC):aH:=[.bool c.alive,.int .i64 c.inc,.slice c.la c.aU.length c.lc,.slice (c.fD.map λb=>⟨b,0,none⟩) c.raw.length c.raw.length,.int .i64 c.waiting,.int .i64 c.sN,.int .i64 c.yQ]
structure mm where
 b:Nat
 a4:Nat
 n:bt
structure cF where
 lines:Nat
 nodes:List mm
 na:ax
 nc:Nat
 bo:Nat
 bl:List dC
 cN:List (Nat×gh)
 fZ:ax
 lC:Nat
def cF.pure (X:cF):a9:=⟨X.lines,X.nodes.map mm.n,X.bl.map dC.pure,X.cN.map λp=>p.2.pure⟩
def cF.cells (X:cF):aH:=[.int .i64 X.lines,.slice X.na X.nodes.length X.nc,.slice (some ⟨X.bo,0,none⟩) X.bl.length X.bl.length,.slice X.fZ X.cN.length X.lC]
def ptr (b:Nat):bx:=.pointer (some ⟨b,0,none⟩)
def l0 (ls:List fF):List aH:=ls.map fF.cells
def jL (cs:List dC):List aH:=cs.map dC.cells
abbrev uo:TypeId:=110
abbrev qY:TypeId:=102
abbrev uq:TypeId:=105
abbrev Sn:TypeId:=92
abbrev zC:TypeId:=103
abbrev vw:TypeId:=3
structure Ir (A:bB) (aG:Nat->Tag) (w:av) (i j:Nat) (l:fF):Prop where
 pair:gy A w l.pb l.p
 tag:∀ k,l.p.mut l.pb k->aG k=.lane i j
 cP:bu w vw 1 l.sG l.cP.length l.tP (is (l.cP.map Int.ofNat))
 Hu:∀ k,a7 l.sG k->aG k=.cP i j
def lN (A:bB) (w:av) (raw:List cL) (xs:List a_):Prop:=raw.length=xs.length/\∀ (i:Nat) (v:cL) (x:a_),raw[i]?=some v->xs[i]?=some x->tT A w v x
structure sE (A:bB) (aG:Nat->Tag) (w:av) (i:Nat) (c:dC):Prop where
 own:bu w uq 2 c.la c.aU.length c.lc (l0 c.aU).flatten
 tag:∀ k,a7 c.la k->aG k=.aU i
 lane:∀ (j:Nat) (l:fF),c.aU[j]?=some l->Ir A aG w i j l
 none:c.fD=none->c.raw=[]/\c.batch=[]
 batch:∀ b,c.fD=some b->aF w b (j6 c.raw).flatten o9/\aG b=.batch i
 ds:lN A w c.raw c.batch
structure MF (aG:Nat->Tag) (w:av) (i:Nat) (x:mm):Prop where
 node:gY w x.b x.a4 x.n
 tag:aG x.b=.node i
 qM:aG x.a4=.word i
structure c4 (A:bB) (aG:Nat->Tag) (w:av) (a3:Nat) (X:cF):Prop where
 iL:∀ k,aG k≠.dR->A k
 low:∀ k,A k->k<w.heap.size
 dt:aF w a3 X.cells uo
 lu:aG a3=.dt
 nodes:bu w Sn 1 X.na X.nodes.length X.nc (X.nodes.map λx=>ptr x.b)
 qE:∀ k,a7 X.na k->aG k=.nodes
 node:∀ (i:Nat) (x:mm),X.nodes[i]?=some x->MF aG w i x
 cls:aF w X.bo (jL X.bl).flatten qY
 i_:aG X.bo=.bl
 bw:∀ (i:Nat) (c:dC),X.bl[i]?=some c->sE A aG w i c
 km:bu w zC 1 X.fZ X.cN.length X.lC (X.cN.map λp=>ptr p.1)
 rv:∀ k,a7 X.fZ k->aG k=.km
 hB:∀ p ∈ X.cN,gy A w p.1 p.2/\∀ k,p.2.mut p.1 k->aG k=.nk p.1
 nodup:(X.cN.map Prod.fst).Nodup
structure tZ (T:Tag->Prop) (A A':bB) (aG χ':Nat->Tag) (w w':av):Prop where
 aO:ay (λk=>T (aG k)) w w'
 dR:¬ T .dR
 iL:∀ k,aG k≠.dR->A k
 old:∀ k,k<w.heap.size->A' k->A k
 same:∀ k,k<w.heap.size->¬ T (aG k)->aG k≠.dR->χ' k=aG k
 vD:∀ k,χ' k≠.dR->A' k
theorem tZ.Hh {T:Tag->Prop} {aG χ':Nat->Tag} (m:tZ T A A' aG χ' w w'):ay A w w':=m.aO.mono λk _ h=>m.iL k λe=>m.dR (by rw [e] at h;exact h)
theorem gy.eF {T:Tag->Prop} {aG χ':Nat->Tag} (m:tZ T A A' aG χ' w w') {b:Nat} {p:gh} {t:Tag} (h:gy A w b p) (aZ:∀ k,p.mut b k->aG k=t) (bq:¬ T t) (aD:t≠.dR):gy A' w' b p/\∀ k,p.mut b k->χ' k=t:=by
 have aK:∀ k,p.mut b k->k<w.heap.size:=by
  rintro k (rfl | J | J)
  ·exact h.an.lt
  ·exact h.own.lt J
  ·exact h.rI.lt J
 have BZ:∀ k,p.mut b k->χ' k=t:=λk J=>by rw [m.same k (aK k J) (by rw [aZ k J];exact bq) (by rw [aZ k J];exact aD),aZ k J]
 refine ⟨?_,BZ⟩;have ed:=h.aO m.aO (λk J ab=>bq (by rw [aZ k J] at ab;exact ab)) (λk J=>m.iL k λe=>m.dR (by rw [e] at J;exact J));refine ⟨ed.an,ed.own,ed.rI,h.vs.aO m.Hh λk J fB=>m.old k J fB,h.bw,h.inc,h.node,h.len,h.sU,h.w5,h.ex,h.H5,λk J=>m.vD k (by rw [BZ k J];exact aD)⟩
theorem bu.eF {T:Tag->Prop} {aG χ':Nat->Tag} (m:tZ T A A' aG χ' w w') {e sz n cap:Nat} {xs:aH} {t:Tag} (h:bu w e sz a n cap xs) (aZ:∀ k,a7 a k->aG k=t) (bq:¬ T t) (aD:t≠.dR):bu w' e sz a n cap xs/\∀ k,a7 a k->χ' k=t:=
 ⟨h.aO m.aO λk J ab=>bq (by rw [aZ k J] at ab;exact ab),λk J=>by rw [m.same k (h.lt J) (by rw [aZ k J];exact bq) (by rw [aZ k J];exact aD),aZ k J]⟩
theorem aF.eF {T:Tag->Prop} {aG χ':Nat->Tag} (m:tZ T A A' aG χ' w w') {b:Nat} {cs:aH} {ty:TypeId} {t:Tag} (h:aF w b cs ty) (aZ:aG b=t) (bq:¬ T t) (aD:t≠.dR):aF w' b cs ty/\χ' b=t:=
 ⟨m.aO.an h λab=>bq (by rw [aZ] at ab;exact ab),by rw [m.same b h.lt (by rw [aZ];exact bq) (by rw [aZ];exact aD),aZ]⟩
theorem lN.aO {A A':bB} {w w':av} {raw:List cL} {xs:List a_} (h:lN A w raw xs) (J:ay A w w') (c1:∀ k,k<w.heap.size->A' k->A k):lN A' w' raw xs:=
 ⟨h.1,λi v x aw ao=>(h.2 i v x aw ao).aO J c1⟩
theorem Ir.eF {T:Tag->Prop} {A A':bB} {aG χ':Nat->Tag} {w w':av} (m:tZ T A A' aG χ' w w') {i j:Nat} {l:fF} (h:Ir A aG w i j l) (af:¬ T (.lane i j)) (al:¬ T (.cP i j)):Ir A' χ' w' i j l:=by obtain ⟨dr,c2⟩:=gy.eF m h.pair h.tag af (by simp);obtain ⟨eA,hE⟩:=bu.eF m h.cP h.Hu al (by simp);exact ⟨dr,c2,eA,hE⟩
theorem sE.eF {T:Tag->Prop} {A A':bB} {aG χ':Nat->Tag} {w w':av} (m:tZ T A A' aG χ' w w') {i:Nat} {c:dC} (h:sE A aG w i c) (bq:∀ t,oV i t->¬ T t):sE A' χ' w' i c:=by obtain ⟨dr,c2⟩:=bu.eF m h.own h.tag (bq _ rfl) (by simp);refine ⟨dr,c2,λj l au=>(h.lane j l au).eF m (bq _ rfl) (bq _ rfl),h.none,λb ak=>?_,h.ds.aO m.Hh m.old⟩;exact aF.eF m (h.batch b ak).1 (h.batch b ak).2 (bq _ rfl) (by simp)
theorem MF.eF {T:Tag->Prop} {A A':bB} {aG χ':Nat->Tag} {w w':av} (m:tZ T A A' aG χ' w w') {i:Nat} {x:mm} (h:MF aG w i x) (af:¬ T (.node i)) (al:¬ T (.word i)):MF χ' w' i x:=by obtain ⟨dr,c2⟩:=aF.eF m h.node.node h.tag af (by simp);obtain ⟨eA,hE⟩:=aF.eF m h.node.words h.qM al (by simp);exact ⟨⟨dr,eA,h.node.len,h.node.Le,h.node.wf⟩,c2,hE⟩
def k0 (A:bB) (aG χ':Nat->Tag) (w:av) (k:Nat):Prop:=χ' k≠.dR\/(k<w.heap.size/\A k/\aG k=.dR)
structure Next (A A':bB) (aG χ':Nat->Tag) (w w':av):Prop where
 aO:ay (λk=>aG k≠.dR) w w'
 grow:∀ k,k<w.heap.size->χ' k≠.dR->aG k≠.dR
 iff:∀ k,A' k↔k0 A aG χ' w k
theorem Next.refl {aG:Nat->Tag} (bc:∀ k,aG k≠.dR->A k) (au:∀ k,A k->k<w.heap.size) (aj:ai w w'):Next A A aG aG w w':=
 ⟨ay.db aj,λ_ _ h=>h,λk=>⟨λh=>by
  by_cases ab:aG k=.dR
  ·exact .inr ⟨au k h,h,ab⟩
  ·exact .inl ab,λh=>h.elim (bc k) λh=>h.2.1⟩⟩
theorem Next.trans {A iB mz:bB} {aG fm qU:Nat->Tag} {w w1 aS:av} (h:Next A iB aG fm w w1) (gH:Next iB mz fm qU w1 aS):Next A mz aG qU w aS:=by
 refine ⟨h.aO.trans gH.aO λi aD ab=>h.grow i aD ab,λk J ab=>h.grow k J (gH.grow k (ks J h.aO.size) ab),λk=>?_⟩
 rw [gH.iff k];constructor
 ·rintro (ab | ⟨af,al,aL⟩)
  ·exact .inl ab
  ·rcases (h.iff k).1 al with ab | ⟨ca,c9,e8⟩
   ·exact absurd aL ab
   ·exact .inr ⟨ca,c9,e8⟩
 ·rintro (ab | ⟨af,al,aL⟩)
  ·exact .inl ab
  ·refine .inr ⟨ks af h.aO.size,(h.iff k).2 (.inr ⟨af,al,aL⟩),?_⟩;by_cases ab:fm k=.dR
   ·exact ab
   ·exact absurd aL (h.grow k af ab)
theorem Next.new {A iB:bB} {aG fm:Nat->Tag} {w w1 aS:av} (h:Next A iB aG fm w w1) (gH:ai w1 aS):Next A iB aG fm w aS:=⟨h.aO.new gH,h.grow,h.iff⟩
theorem c4.move {T:Tag->Prop} {aG χ':Nat->Tag} {X:cF} (h:c4 A aG w a3 X) (J:ay (λk=>T (aG k)) w w') (aD:¬ T .dR)
  (a':∀ k,k<w.heap.size->χ' k≠.dR->aG k≠.dR) (aX:∀ k,k<w.heap.size->¬ T (aG k)->aG k≠.dR->χ' k=aG k):tZ T A (k0 A aG χ' w) aG χ' w w'/\Next A (k0 A aG χ' w) aG χ' w w':=by
 refine ⟨⟨J,aD,h.iL,λk aK fB=>?_,aX,λk ab=>.inl ab⟩,⟨J.mono λk _ aZ e=>aD (by rw [e] at aZ;exact aZ),a',λk=>Iff.rfl⟩⟩
 rcases fB with fB | fB
 ·exact h.iL k (a' k aK fB)
 ·exact fB.2.1
theorem c4.new {A:bB} {aG:Nat->Tag} {w w':av} {a3:Nat} {X:cF} (h:c4 A aG w a3 X) (J:ai w w'):c4 A aG w' a3 X:=by
 have m:tZ (λ_=>False) A A aG aG w w':=⟨J,id,h.iL,λ_ _ h=>h,λ_ _ _ _=>rfl,h.iL⟩;refine ⟨h.iL,λk ab=>ks (h.low k ab) J.size,ai.an J h.dt,h.lu,h.nodes.new J,h.qE,λi x ao=>(h.node i x ao).eF m id id,ai.an J h.cls,h.i_,
  λi c ab=>(h.bw i c ab).eF m λ_ _=>id,h.km.new J,h.rv,λp ar=>⟨(h.hB p ar).1.new J,(h.hB p ar).2⟩,h.nodup⟩
theorem c4.wP {aG:Nat->Tag} {X:cF} (h:c4 A aG w a3 X) (af:∀ k,A' k->A k) (al:∀ k,aG k≠.dR->A' k):c4 A' aG w a3 X:=by
 have m:tZ (λ_=>False) A A' aG aG w w:=⟨ay.refl _ _,id,h.iL,λk _=>af k,λ_ _ _ _=>rfl,al⟩;refine ⟨al,λk ab=>h.low k (af k ab),h.dt,h.lu,h.nodes,h.qE,h.node,h.cls,h.i_,
  λi c ab=>(h.bw i c ab).eF m λ_ _=>id,h.km,h.rv,λp ar=>⟨(gy.eF m (h.hB p ar).1 (h.hB p ar).2 id (by simp)).1,(h.hB p ar).2⟩,h.nodup⟩
theorem c4.other {S:bB} {aG:Nat->Tag} {X:cF} (h:c4 A aG w a3 X) (J:ay S w w') (gl:∀ k,S k->A k/\aG k=.dR):c4 A aG w' a3 X:=by
 have ak:∀ {b:Nat} {cs:aH} {T:TypeId} {t:Tag},aF w b cs T->aG b=t->t≠.dR->aF w' b cs T:=λak aZ aD=>J.an ak λab=>aD (by rw [<-aZ];exact (gl _ ab).2)
 have aq:∀ {e sz n cap:Nat} {a:ax} {xs:aH} {t:Tag},bu w e sz a n cap xs->(∀ k,a7 a k->aG k=t)->t≠.dR->bu w' e sz a n cap xs:=λaq aZ aD=>aq.aO J λk J ab=>aD (by rw [<-aZ k J];exact (gl _ ab).2)
 have ar:∀ {b:Nat} {p:gh} {t:Tag},gy A w b p->(∀ k,p.mut b k->aG k=t)->t≠.dR->gy A w' b p:=λar aZ aD=>ar.aO J (λk J ab=>aD (by rw [<-aZ k J];exact (gl _ ab).2)) (λk ab=>(gl k ab).1)
 have fB:ay A w w':=J.mono λk _ ab=>(gl k ab).1
 refine ⟨h.iL,λk ab=>ks (h.low k ab) J.size,ak h.dt h.lu (by simp),h.lu,aq h.nodes h.qE (by simp),h.qE,λi x ao=>?_,ak h.cls h.i_ (by simp),h.i_,λi c ab=>?_,
  aq h.km h.rv (by simp),h.rv,λp KI=>⟨ar (h.hB p KI).1 (h.hB p KI).2 (by simp),(h.hB p KI).2⟩,h.nodup⟩
 ·have aj:=h.node i x ao;exact ⟨⟨ak aj.node.node aj.tag (by simp),ak aj.node.words aj.qM (by simp),aj.node.len,aj.node.Le,aj.node.wf⟩,aj.tag,aj.qM⟩
 ·have ab:=h.bw i c ab;refine ⟨aq ab.own ab.tag (by simp),ab.tag,λj l au=>?_,ab.none,λb hI=>⟨ak (ab.batch b hI).1 (ab.batch b hI).2 (by simp),(ab.batch b hI).2⟩,ab.ds.aO fB λ_ _ h=>h⟩;have au:=ab.lane j l au;exact ⟨ar au.pair au.tag (by simp),au.tag,aq au.cP au.Hu (by simp),au.Hu⟩
theorem yK (ls:List fF):∀ r ∈ l0 ls,r.length=2:=by intro r aA;simp only [l0,eQ] at aA;obtain ⟨l,_,rfl⟩:=aA;rfl
theorem Wz (cs:List dC):∀ r ∈ jL cs,r.length=7:=by intro r aA;simp only [jL,eQ] at aA;obtain ⟨l,_,rfl⟩:=aA;rfl
theorem i0 {ls:List fF} {l:fF} (h:ls[i]?=some l):(l0 ls)[i]?=some l.cells:=by simp [l0,h]
theorem Ly {cs:List dC} {c:dC} (h:cs[i]?=some c):(jL cs)[i]?=some c.cells:=by simp [jL,h]
theorem Hz (cs:List dC) (i:Nat) (c:dC):(jL cs).set i c.cells=jL (cs.set i c):=by simp [jL]
theorem aja (ls:List fF) (i:Nat) (l:fF):(l0 ls).set i l.cells=l0 (ls.set i l):=by simp [l0]
theorem ajb (ds:List cL) (i:Nat) (d:cL):(j6 ds).set i d.cells=j6 (ds.set i d):=by simp [j6]
theorem c4.n_ {aG:Nat->Tag} {X:cF} (h:c4 A aG w a3 X) {k:Nat} {c:dC} (ab:X.bl[i]?=some c) (aw:c.cells[k]?=some v):w.cell? ⟨X.bo,0+i * 7+k,none⟩=some v:=by rw [l6];exact h.cls.cell (QJ (Wz _) (Ly ab) aw)
theorem cF.Gp (X:cF) (c:Int):(X.pure.fE c=none/\(c<0\/(X.bl.length:Int)<=c))\/∃ i x,c=(i:Nat)/\X.bl[i]?=some x/\X.pure.fE c=some x.pure:=by
 unfold a9.fE;by_cases ab:c<0
 ·exact .inl ⟨by rw [if_pos ab],.inl ab⟩
 ·rw [if_neg ab];cases ao:X.bl[c.toNat]? with
  |none=>exact .inl ⟨by simp [cF.pure,ao],.inr (by have:=List.getElem?_eq_none_iff.1 ao;omega)⟩
  |some x=>exact .inr ⟨c.toNat,x,by omega,ao,by simp [cF.pure,ao]⟩
theorem Li {aG:Nat->Tag} {X:cF} (h:c4 A aG w a3 X) {c:Int} (ab:c<0\/(X.bl.length:Int)<=c) :
  bK 44 [ptr a3,.int .i64 c] w λv w'=>v=.pointer none/\w'=w:=by
 refine bO Tryz.func44 ?_;rw [ptr,aee];refine bL (λ_=>⟨rfl,rfl⟩) (λaN=>?_)
 exact ⟨_,_,_,h.dt.cell rfl,bL (λ_=>⟨rfl,rfl⟩) (λaf=>by omega)⟩
theorem Hj {aG:Nat->Tag} {X:cF} (h:c4 A aG w a3 X) {x:dC} (ab:X.bl[i]?=some x) :
  bK 44 [ptr a3,.int .i64 i] w λv w'=>v=.pointer (some ⟨X.bo,0+i * 7,none⟩)/\w'=w:=by
 refine bO Tryz.func44 ?_;rw [ptr,aee];have:=dy ab;refine bL (λ_=>by omega) (λaN=>⟨_,_,_,h.dt.cell rfl,bL (λ_=>by omega) (λaf=>⟨_,_,_,h.dt.cell rfl,hc (by omega) (by omega) ⟨rfl,rfl⟩⟩)⟩)
theorem Zf {aG:Nat->Tag} {X:cF} (h:c4 A aG w a3 X) (c:Int):bK 43 [ptr a3,.int .i64 c] w λv w'=>v=.bool (X.pure.alive c)/\w'=w:=by
 refine bO Tryz.func43 ?_;rw [ptr,axR];unfold a9.alive;rcases X.Gp c with ⟨af,al⟩ | ⟨i,x,rfl,af,al⟩
 ·refine aR (Li h al) ?_;rintro v w' ⟨rfl,rfl⟩;rw [af];exact ⟨_,rfl,rfl,rfl⟩
 ·refine aR (Hj h af) ?_;rintro v w' ⟨rfl,rfl⟩;rw [al];exact ⟨_,rfl,⟨_,h.n_ (k:=0) af rfl,rfl,rfl⟩⟩
theorem ajc {aG:Nat->Tag} {X:cF} (h:c4 A aG w a3 X) (c:Int):bK 63 [ptr a3,.int .i64 c] w λv w'=>v=.int .i64 (X.pure.waiting c)/\w'=w:=by
 refine bO Tryz.func63 ?_;rw [ptr,axn];unfold a9.waiting;rcases X.Gp c with ⟨af,al⟩ | ⟨i,x,rfl,af,al⟩
 ·refine aR (Li h al) ?_;rintro v w' ⟨rfl,rfl⟩;rw [af];exact ⟨_,rfl,rfl,rfl⟩
 ·refine aR (Hj h af) ?_;rintro v w' ⟨rfl,rfl⟩;rw [al];exact ⟨_,rfl,⟨_,h.n_ (k:=4) af rfl,rfl,rfl⟩⟩
theorem Ru {aG:Nat->Tag} {X:cF} (h:c4 A aG w a3 X):bK 38 [ptr a3] w λv w'=>v=.int .i64 X.nodes.length/\w'=w:=by refine bO Tryz.func38 ?_;rw [ptr,axQ];exact ⟨_,_,_,h.dt.cell rfl,rfl,rfl⟩
theorem HZ {e cap:Nat} {dA:aH} {n:Nat} (h:bu w e 1 a n cap dA) (aw:dA[i]?=some v) {K:bh->Prop} {z:Int} (aE:z=i) (J:∀ ch,w.cell? ch=some v->(∃ g,a=some ⟨g,0,none⟩/\ch=⟨g,0+i * 1,none⟩)->K ch):cb a n z 1 K:=by
 subst aE;have au:=dy aw;have af:=h.1;rcases h.2 with ⟨_,aN,_⟩ | ⟨g,cur,rfl,ak,hle,ab,hlen,aZ⟩
 ·subst aN;omega
 ·refine hc (by omega) (by omega) ?_;refine J _ ?_ ⟨g,rfl,by simp⟩;have aD:cur[i]?=some v:=by
   rw [<-aZ] at aw;rw [A3] at aw;split at aw
   ·exact aw
   ·cases aw
  have:=ak.cell aD;simpa using this
theorem WA {aG:Nat->Tag} {X:cF} (h:c4 A aG w a3 X) {x:mm} (ao:X.nodes[i]?=some x):bK 39 [ptr a3,.int .i64 i] w λv w'=>v=ptr x.b/\w'=w:=by refine bO Tryz.func39 ?_;rw [ptr,aym];have:=dy ao;refine bL (λ_=>by omega) (λaN=>⟨_,_,_,h.dt.cell rfl,bL (λ_=>by omega) (λaf=>⟨_,_,_,h.dt.cell rfl,?_⟩)⟩);exact HZ (v:=ptr x.b) (i:=i) h.nodes (by simp [ao]) rfl λch ab _=>⟨_,ab,rfl,rfl⟩
theorem c4.setNode {aG:Nat->Tag} {X:cF} (h:c4 A aG w a3 X) {x:mm} (ao:X.nodes[i]?=some x) {n':bt} (J:ay (λk=>k=x.b\/k=x.a4) w w') (aj:gY w' x.b x.a4 n') :
  ∃ A',Next A A' aG aG w w'/\c4 A' aG w' a3 { X with nodes:=X.nodes.set i { x with n:=n' } }:=by
 have rl:=h.node i x ao;obtain ⟨m,ba⟩:=h.move (χ':=aG) (T:=λt=>t=.node i\/t=.word i) (w':=w') (J.mono λk _ ab=>ab.elim (λe=>.inl (e▸rl.tag)) (λe=>.inr (e▸rl.qM))) (by simp) (λ_ _ h=>h) (λ_ _ _ _=>rfl);refine ⟨_,ba,m.vD,λk ab=>ks (ab.elim (λab=>h.low k (h.iL k ab)) (λab=>ab.1)) J.size,?_,h.lu,?_,h.qE,?_,(aF.eF m h.cls h.i_ (by simp) (by simp)).1,h.i_,λj c ab=>(h.bw j c ab).eF m ?_,(bu.eF m h.km h.rv (by simp) (by simp)).1,h.rv,λp ar=>gy.eF m (h.hB p ar).1 (h.hB p ar).2 (by simp) (by simp),h.nodup⟩
 ·have:=(aF.eF m h.dt h.lu (by simp) (by simp)).1;simpa [cF.cells] using this
 ·have:=(bu.eF m h.nodes h.qE (by simp) (by simp)).1;have e:((X.nodes.set i { x with n:=n' }).map λx=>ptr x.b)=X.nodes.map λx=>ptr x.b:=by
   rw [oz];apply rL;intro k;rw [oy];split
   ·rename_i he;subst he;split
    ·simp [ao]
    ·rename_i ab;exact absurd (dy ao) (by simpa using ab)
   ·rfl
  rw [e];simpa using this
 ·intro j y az;simp only [oy] at az;split at az
  ·rename_i he;subst he;split at az
   ·simp only [iX] at az;subst az;exact ⟨aj,rl.tag,rl.qM⟩
   ·cases az
  ·rename_i he;exact (h.node j y az).eF m (by simp;exact λe=>he e.symm) (by simp;exact λe=>he e.symm)
 ·intro t aZ;cases t<;>simp [oV] at aZ ⊢
end
end Go.Proofs.YtmkljjbioomepaaGreat
