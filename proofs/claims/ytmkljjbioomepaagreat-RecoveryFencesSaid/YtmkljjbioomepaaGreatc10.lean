import Derived.Test.YtmkljjbioomepaaGreatc09
set_option linter.all false
set_option maxHeartbeats 4000000
set_option maxRecDepth 100000
namespace Go.Proofs.YtmkljjbioomepaaGreat
open Go.Proofs.Tryz Go.br
variable {A A':a5} {a:al} {aN i:Nat} {v:a4} {w w':ak}
section
theorem C5 {M:a5} {b fy fo:Nat} {p:dE} {n:a0} (h:dM M w b p) (X:dY w fy fo n) (V':M fo) (XQ:M fy) (WQ:¬ aK p.de fo) (XT:p.pure.hL) :
  a_ 70 [.pointer (some ⟨b,0,none⟩),.pointer (some ⟨fy,0,none⟩)] w (xR M b fy fo p n w):=by
 refine bc Tryz.func70 ?_;rw [SR];rintro b1 w1 WZ Wg;obtain ⟨V8,VX⟩:=bl WZ Wg;have Xg:w1.heap.size=w.heap.size+1:=by rw [Wg];simp
 clear Wg;have Wc:=h.new VX;have XK:=X.new VX;have W1:=h.aj.lt;have XR:=X.node.lt;have Xy:=X.words.lt;have W:∀ k,aK p.de k->k<w.heap.size:=λk f=>h.j7.lt f
 have VA:∀ k,aK p.c1 k->k<w.heap.size:=λk f=>h.own.lt f
 refine ⟨_,_,_,Wc.aj.cell rfl,dJ (λhe=>?_) (λhe=>?_)⟩
 ·have Xj:p.ba=[]:=fB (by omega);have q:p.pure.step n=(p.pure,n,none):=Kr Xj;refine ⟨f7 (vs:=bR.cells ⟨0,none,0,0⟩) V8 (by simp [bR.cells]) (bR.single _),?_⟩;intro X3 Xo;obtain ⟨W4,Wa⟩:=ow (vs:=bR.cells ⟨0,none,0,0⟩) V8 (by simp [bR.cells]) VX (by omega) Xo;refine tp (d:=⟨0,none,0,0⟩) (sB W4) ⟨rfl,⟨0,none,0,0⟩,p,?_,?_,?_,?_,?_,?_,ao.b3 Wa,.inl rfl,.inl rfl,?_⟩
  ·rw [q];rfl
  ·rw [q]
  ·rw [q];exact X.new Wa
  ·rw [q];intro x XX;cases XX
  ·rintro k ⟨o,A⟩;cases A
  ·intro M' Y N;refine (h.new Wa).mA (λk _ f=>?_) N;rcases Y k f with f | f | f
   ·exact f.2
   ·exact h.ia k (.inr (.inl f))
   ·exact h.ia k (.inr (.inr f))
  ·rintro k ⟨o,A⟩;cases A
 obtain ⟨x,xs,Vs⟩:∃ x xs,p.ba=x::xs:=by
  cases Xb:p.ba with
  |nil=>rw [Xb] at he;simp at he
  |cons x xs=>exact ⟨x,xs,rfl⟩
 obtain ⟨v,vs,WO⟩:∃ v vs,p.raw=v::vs:=by
  cases Xb:p.raw with
  |nil=>have:=h.vs.1;rw [Xb,Vs] at this;simp at this
  |cons v vs=>exact ⟨v,vs,rfl⟩
 have an:cE M w v x:=h.vs.2 0 v x (by rw [WO];rfl) (by rw [Vs];rfl);have q:=Jd (p:=p.pure) (n:=n) Vs;refine ⟨_,_,_,Wc.aj.cell rfl,?_⟩;obtain ⟨X1,dy,Xl,W3,XL⟩:=Wc.own.rd.row (uA p.raw) (by omega) (i:=0) (r:=v.cells) (by rw [WO];rfl);rw [Xl];refine ed (by omega) (by omega) ?_;refine iT (v:=v) (by simpa using W3) ?_;rintro aA XY W0 Wh;obtain ⟨Wl,W9⟩:=bl W0 Wh;have Xh:XY.heap.size=w.heap.size+2:=by rw [Wh];simp [Xg]
 clear Wh;refine ⟨f7 (vs:=aG.cells v) Wl (by simp [aG.cells]) (aG.single v),?_⟩;intro XG Wi;have XU:XG.heap.size=w.heap.size+2:=by rw [Wi,AH,Xh]
 obtain ⟨WR,WI⟩:=ow (vs:=aG.cells v) Wl (by simp [aG.cells]) W9 (by omega) Wi;clear Wi Wl;have Vy:Go.br.ai w XG:=VX.new WI;have W5:=ai.aj WI V8;refine iT (v:=v) (g2 WR) ?_;refine aC (Jb (h.new Vy) (X.new Vy) (an.az (ao.b3 Vy) λ_ _ h=>h)) ?_;rintro r Xu ⟨rfl,VW⟩;have VP:=Vy.new VW;have Wv:=ai.aj VW W5;have WS:=ai.aj VW WR;have XV:=VW.size;have VF:b1≠b:=by omega
 have V4:∀ k,p.mut b k->k<w.heap.size:=λk f=>by
  rcases f with rfl | f | f
  ·exact W1
  ·exact VA k f
  ·exact W k f
 have Xx:dM (λk=>(k<w.heap.size/\M k)\/k=b1) Xu b p:=by
  refine (h.mA (λk WG f=>?_) (λk f=>.inl ⟨V4 k f,h.ia k f⟩)).new VP;rcases f with f | f
  ·exact f.2
  ·omega
 have Xw:aA≠b:=by omega
 refine ⟨_,rfl,dw (λW_=>?_) (λau=>?_)⟩
 ·
  rw [if_pos W_] at q;refine aC (A1 Xx (by rw [Vs];simp)) ?_;rintro r XZ ⟨rfl,c1,fA,Vr,WD,Wz⟩;have Ww:=WD.aj Wv VF;refine ⟨rfl,f7 (vs:=bR.cells ⟨p.pure.refusal x n,none,0,0⟩) Ww (by simp [bR.cells]) (bR.single _),?_⟩;intro Xv Wj;have W6:av Xv b1 (bR.cells ⟨p.pure.refusal x n,none,0,0⟩) iM:=by rw [Wj];have:=Ww.ct (o:=0) (i:=0) (vs:=bR.cells ⟨p.pure.refusal x n,none,0,0⟩);rw [pn (by simp [bR.cells])] at this;exact this
  have WE:ao (λk=>k=b1) XZ Xv:=by rw [Wj];exact hT _ _ _ _ _
  clear Wj;have L:ao (λk=>k=b) w Xv:=((ao.b3 VP).trans WD λ_ _ h=>h).trans WE λk f he=>by omega
  refine tp (d:=⟨p.pure.refusal x n,none,0,0⟩) (sB W6) ⟨rfl,⟨p.pure.refusal x n,none,0,0⟩,p.done c1 fA,?_,?_,?_,?_,?_,?_,L.mono (λk _ e=>.inl e),.inr ?_,?_,?_⟩
  ·rw [q];rfl
  ·rw [q];rfl
  ·rw [q];refine X.az L (λe=>?_) (λe=>?_)
   ·have:=av.iV X.node (e▸h.aj);revert this;decide
   ·have:=av.iV X.words (e▸h.aj);revert this;decide
  ·rw [q];intro y Wk;simp only [e8] at Wk;subst Wk;exact ⟨rfl,rfl,bh.nil _ _,λ_=>rfl,by simp,by simp,rfl⟩
  ·rintro k ⟨o,A⟩;cases A
  ·intro M' Y N;have We:=Vr (λk=>M' k\/k=b1) (λk f=>?_) (λk f=>.inl (N k f))
   ·refine (We.az WE (λk f he=>?_) (λk he=>.inr he)).mA (λk _ f=>.inl f) N;rcases f with f | f | ⟨o,A⟩
    ·omega
    ·have:=Wz k f;omega
    ·cases A
   ·rcases f with f | f
    ·rcases Y k f with Z | Z | ⟨o,A⟩
     ·exact .inl ⟨by omega,.inl Z⟩
     ·exact .inr Z
     ·cases A
    ·exact .inl ⟨by omega,.inr f⟩
  ·intro k f;have:=Wz k f;omega
  ·right;rintro k ⟨o,A⟩;cases A
  ·rintro k ⟨o,A⟩;cases A
 ·
  rw [if_neg (λR=>R au)] at q;obtain ⟨Xi,Xn⟩:=HG au;obtain ⟨Wq,WC⟩:=xw Xn;have WB:=pk WC;have Xa:=X.len;have W8:x.v.dd=(x.at_+x.v.count - 1) / 8:=rfl;have Wp:x.v.bW=x.at_:=rfl;have Wx:x.at_+x.v.count<=n.words.length:=by have VC:=WB.2.2.2.2.2.2.2.2.2.1;rw [W8] at VC;omega
  have WL:=XT x xs Vs;have VR:x.v.pieces[p.bD]?=some (x.v.pieces.getD p.bD (0,0)):=by have:p.bD<x.v.pieces.length:=WL;simp [this]
  have Xe:x.v.pieces.length<=1024:=by have:=ms x.v.count.toNat x.v.bW x.v.count;have X2:=WB.2.2.2.2.2.2.2.2.1;show (hy _ _ _).length<=1024;omega
  have H:=z5 x.v.count.toNat x.v.bW x.v.count (by omega) _ (cg VR);have Xc:p.pure.bD=p.bD:=rfl;rw [Xc] at q;generalize Xz:x.v.pieces.getD p.bD (0,0)=pc at VR H q;refine iT (v:=v) (g2 WS) ?_;refine aC (IR _ v (by rw [an.at_];omega) (by rw [an.at_];omega) (by rw [an.count];exact Wq) (by rw [an.count];omega)) ?_;rintro r X0 ⟨pa,XE,rfl,V7,WF,Xd⟩;rw [an.pieces] at V7;refine ⟨_,_,_,rfl,?_⟩;intro WW WP;have V_:Go.br.ai X0 WW:=by rw [WP];exact cD _
  clear WP;have Vz:=(VP.new WF).new V_;have Vx:=WF.new V_;have XW:=Vx.size;have Wd:=Xx.new Vx;have WY:=X.new Vz;have W7:=ai.aj Vx Wv;have Xq:=ai.aj Vx WS;have Wf:=V7.new V_;have Q:b≠fo:=by intro e;have:=av.iV X.words (e▸h.aj);revert this;decide
  have VG:¬ aK p.de b:=by intro R;obtain ⟨cs,D⟩:=fI h.j7 R;have:=av.iV D h.aj;revert this;decide
  obtain ⟨Xs,XF,WK,_,Xf⟩:=Wf.row (I9 _) (by omega) (I_ VR);have XS:Xu.heap.size<=Xs:=by have:=Xd Xs (by rw [WK];exact ⟨XF,rfl⟩);exact this
  have WM:∀ u,ao (λk=>k=fo\/aK p.de k) WW u->b6 u ⟨Xs,XF+p.bD * 2,none⟩ 0 [.int .i64 pc.1,.int .i64 pc.2]:=by
   intro u hu;refine kR λj bj XP=>jy hu ?_ ?_
   ·have:=Xf j bj XP;simpa using this
   ·rintro (R | R)
    ·simp at R <;> omega
    ·have:=W _ R;simp at this <;> omega
  refine ⟨λu=>ao (λk=>k=fo\/aK p.de k) WW u,ao.refl _ _,_,_,_,λu hu=>(hu.aj Wd.aj (λR=>R.elim Q VG)).cell rfl,
   mF (v:=v) (λu hu=>g2 (hu.aj Xq (λR=>R.elim (λe=>by omega) (λe=>by have:=W _ e;omega)))) ⟨_,λu hu=>(hu.aj Wd.aj (λR=>R.elim Q VG)).cell rfl,?_⟩⟩
  rw [WK];have Wy:p.bD<x.v.pieces.length:=WL;refine ed (by omega) (by rw [an.pieces];omega) ⟨pc.1,pc.2,λu hu=>by simpa using WM u hu,?_⟩;have Xk:cE M WW v x:=an.az (ao.b3 Vz) λ_ _ h=>h
  have Wb:x.words=[]\/gd (λk=>k=fo) v.Words:=by
   rcases an.off with A | A
   ·exact .inl A
   ·refine .inr ?_;cases eT:v.Words with
    |none=>trivial
    |some a=>rw [eT] at A;intro R;exact A (by rw [R];exact V')
  refine aC (Jc WY Xi Xk Wb (by rw [<-Wp];exact H.1) H.2.1 H.2.2.1 (by rw [<-Wp];exact H.2.2.2) (by omega) Wx) ?_;rintro r WT ⟨XI,Wo,rfl,V2,XM,V0,S⟩;have VI:=Mm X x pc;have V9:=Ks (x:=x) (n:=n) H.2.2.1 H.2.1;generalize ay:exec x pc n=E at V2 V0 q VI V9;have XA:=S.size;refine ⟨_,_,_,rfl,S.mono (λk _ e=>.inl e),?_⟩;have VQ:dM (λk=>(k<w.heap.size/\M k)\/k=b1) WT b p:=by
   refine Wd.az S (λk f he=>?_) (λk he=>.inl ⟨by omega,by rw [he];exact V'⟩);rcases f with f | f | f
   ·exact Q (f.symm.trans he)
   ·obtain ⟨cs,D⟩:=fI h.own f;have:=av.iV D (he▸X.words);revert this;decide
   ·exact WQ (he▸f)
  have Xp:=h.kI;obtain ⟨inf,XO,Xr,VY,W2⟩:=fL (T:=qo) (z:=.int .u64 0) (n:=1) (m:=8) (by kernel_rfl);have V5:=VQ.j7;rw [<-VY] at V5;obtain ⟨ap,l,Wm,WN,B,VJ,VD⟩:=V5.append (P:=prog) (t:=94) (ty:=94) Tryz.underlying94 XO Xr (by rw [VY];rfl) (by omega)
   (s:=XI) (m:=E.2.length) (c:=Wo) (news:=us E.2) (by rw [VY,hC];omega) V2 (pr _) (by omega) (by rw [W2];omega)
  rw [VY,AJ] at B;refine ⟨ap,p.words.length+E.2.length,l,Wm,WN,(S.mono (λk _ e=>.inl e)).trans VJ (λk _ f=>.inr f),?_⟩;have O:av Wm b p.cells qm:=VJ.aj VQ.aj VG;refine ⟨⟨_,O.cell rfl⟩,O.frozen,?_⟩;intro Wn VS;have VK:ao (λk=>k=b) Wm Wn:=by rw [VS];exact eV _ _ _ _
  have Vu:av Wn b (p.cells.set 5 (.slice ap (p.words.length+E.2.length) l)) qm:=by rw [VS];exact O.setCell _
  clear VS;refine ⟨_,Vu.cell rfl,⟨_,Vu.cell rfl⟩,Vu.frozen,?_⟩;intro F VB;have VL:ao (λk=>k=b) Wn F:=by rw [VB];exact eV _ _ _ _
  have XJ:IntKind.i64.wrap ((p.bD:Int)+1)=((p.bD+1:Nat):Int):=by rw [bC (by omega) (by omega)];rfl
  rw [XJ] at VB;have VE:av F b ((p.cells.set 5 (.slice ap (p.words.length+E.2.length) l)).set 4 (.int .i64 (p.bD+1:Nat))) qm:=by rw [VB];exact Vu.setCell _
  clear VB;have Vt:ap=p.de\/∀ k,aK ap k->Xu.heap.size<=k:=by
   rcases VD with VD | VD
   ·exact .inl VD
   ·refine .inr ?_;rintro k ⟨o,A⟩;rw [VD] at A;simp at A <;> omega
  have J:ao (λk=>k=b\/aK p.de k) WT F:=((VJ.mono λk _ f=>.inr f).trans VK λk _ f=>.inl f).trans VL λk _ f=>.inl f
  have K:ao (λk=>k=b\/aK p.de k\/k=fo) WW F:=(S.mono λk _ f=>.inr (.inr f)).trans J λk _ f=>f.elim .inl λe=>.inr (.inl e)
  have V1:dY F fy fo E.1:=by
   refine V0.az J ?_ ?_
   ·rintro (e | e)
    ·have:=av.iV X.node (e▸h.aj);revert this;decide
    ·obtain ⟨cs,D⟩:=fI h.j7 e;have:=av.iV D X.node;revert this;decide
   ·rintro (e | e)
    ·exact Q e.symm
    ·exact WQ e
  have Vv:av F b1 _ iM:=K.aj W7 (by rintro (e | e | e);exact VF e;have:=W _ e;omega;omega);have V6:dM (λk=>((k<w.heap.size/\M k)\/k=b1)\/aK ap k) F b { p with bD:=p.bD+1,words:=p.words++E.2,de:=ap,eN:=l }:=by
   have VO:∀ k,p.mut b k->k<w.heap.size/\M k:=λk f=>⟨V4 k f,h.ia k f⟩
   have Xm:∀ k,aK p.c1 k->¬ (k=b\/aK p.de k):=by
    rintro k f (e | e)
    ·obtain ⟨cs,D⟩:=fI h.own f;have:=av.iV D (e▸h.aj);revert this;decide
    ·obtain ⟨cs,D⟩:=fI h.own f;obtain ⟨XH,Wr⟩:=fI h.j7 e;have:=av.iV D Wr;revert this;decide
   have C:∀ k,aK ap k->k≠b:=by rintro k f e;obtain ⟨cs,D⟩:=fI B f;have:=av.iV D (e▸O);revert this;decide
   refine ⟨?_,VQ.own.az J Xm,?_,?_,h.a3,h.inc,h.node,h.len,?_,h.mJ,?_,?_,?_⟩
   ·have e:dE.cells { p with bD:=p.bD+1,words:=p.words++E.2,de:=ap,eN:=l }=(p.cells.set 5 (.slice ap (p.words.length+E.2.length) l)).set 4 (.int .i64 (p.bD+1:Nat)):=by simp only [dE.cells,dH];rfl
    rw [e];exact VE
   ·show a2 F qo 1 ap (p.words++E.2).length l (us (p.words++E.2));rw [dH];exact (B.az VK C).az VL C
   ·show en _ F p.raw p.ba;refine h.vs.az ((ao.b3 Vz).trans (M:=M) K ?_) ?_
    ·rintro k _ (e | e | e)
     ·exact h.ia k (.inl e)
     ·exact h.ia k (.inr (.inr e))
     ·rw [e];exact V'
    ·rintro k WG ((f | f) | f)
     ·exact f.2
     ·omega
     ·rcases Vt with e | e
      ·exact h.ia k (.inr (.inr (e▸f)))
      ·have:=e k f;omega
   ·show (p.words++E.2).length<=8 * (p.bD+1);rw [dH];omega
   ·show match p.ba with | []=>p.bD+1=0 | x::_=>p.bD+1<=x.v.pieces.length
    rw [Vs];exact Wy
   ·intro u hu;rcases jL.1 hu with hu | hu
    ·exact h.sN u hu
    ·exact VI u hu
   ·rintro k (e | e | e)
    ·exact .inl (.inl (VO k (.inl e)))
    ·exact .inl (.inl (VO k (.inr (.inl e))))
    ·exact .inr e
  have XB:=K.size;have I:∀ k,aK ap k->k≠b1:=by
   intro k f e;rcases Vt with VC | VC
   ·have:=W k (VC▸f);omega
   ·have:=VC k f;omega
  have C:∀ k,aK ap k->k≠b:=by rintro k f e;obtain ⟨cs,D⟩:=fI B f;have:=av.iV D (e▸O);revert this;decide
  have VN:ao (λk=>k=b\/aK p.de k\/k=fo) w F:=(ao.b3 Vz).trans K λ_ _ h=>h
  refine ⟨_,VE.cell rfl,?_⟩;rw [an.pieces];refine a' (λWG=>?_) (λXN=>?_)
  ·
   have WH:p.bD+1<x.v.pieces.length:=by omega
   rw [if_pos WH] at q;refine ⟨f7 (vs:=bR.cells ⟨0,none,0,0⟩) Vv (by simp [bR.cells]) (bR.single _),?_⟩;intro WU VT;have Ws:av WU b1 (bR.cells ⟨0,none,0,0⟩) iM:=by rw [VT];have:=Vv.ct (o:=0) (i:=0) (vs:=bR.cells ⟨0,none,0,0⟩);rw [pn (by simp [bR.cells])] at this;exact this
   have VM:ao (λk=>k=b1) F WU:=by rw [VT];exact hT _ _ _ _ _
   clear VT;refine tp (d:=⟨0,none,0,0⟩) (sB Ws) ⟨rfl,⟨0,none,0,0⟩,{ p with bD:=p.bD+1,words:=p.words++E.2,de:=ap,eN:=l },?_,?_,?_,?_,?_,?_,?_,.inl rfl,?_,?_⟩
   ·rw [q];rfl
   ·rw [q];rfl
   ·rw [q];refine V1.az VM (λe=>?_) (λe=>?_)
    ·omega
    ·omega
   ·rw [q];intro y Wk;cases Wk
   ·rintro k ⟨o,A⟩;cases A
   ·intro M' Y N;refine (V6.az VM (λk f he=>?_) (λk he=>.inl (.inr he))).mA (λk _ f=>?_) N
    ·rcases f with f | f | f
     ·omega
     ·have:=VA k f;omega
     ·exact I k f he
    ·rcases Y k f with f | f | f
     ·exact .inl (.inl f)
     ·exact .inl (.inl ⟨VA k f,h.ia k (.inr (.inl f))⟩)
     ·exact .inr f
   ·exact VN.trans VM λk f e=>by omega
   ·rcases Vt with VC | VC
    ·exact .inl VC
    ·exact .inr λk f=>by have:=VC k f;omega
   ·rintro k ⟨o,A⟩;cases A
  ·
   have WA:¬ p.bD+1<x.v.pieces.length:=by omega
   rw [if_neg WA] at q;refine ⟨_,_,_,VE.cell rfl,f7 (vs:=bR.cells ⟨0,ap,p.words.length+E.2.length,l⟩) Vv (by simp [bR.cells]) (bR.single _),?_⟩;intro WV VU;have Wt:av WV b1 (bR.cells ⟨0,ap,p.words.length+E.2.length,l⟩) iM:=by rw [VU];have:=Vv.ct (o:=0) (i:=0) (vs:=bR.cells ⟨0,ap,p.words.length+E.2.length,l⟩);rw [pn (by simp [bR.cells])] at this;exact this
   have U:ao (λk=>k=b1) F WV:=by rw [VU];exact hT _ _ _ _ _
   clear VU;have XC:=U.size;have WJ:=V6.az U (λk f he=>by
    rcases f with f | f | f
    ·omega
    ·have:=VA k f;omega
    ·exact I k f he) (λk he=>.inl (.inr he))
   refine aC (A1 WJ (by show p.ba≠[];rw [Vs];simp)) ?_;rintro r Xt ⟨rfl,c1,fA,Vr,V,V3⟩;have XD:=V.size;have VH:=V.aj Wt VF;refine ⟨rfl,tp (d:=⟨0,ap,p.words.length+E.2.length,l⟩) (sB VH) ⟨f7 (vs:=bR.cells ⟨0,ap,p.words.length+E.2.length,l⟩) VH (by simp [bR.cells]) (bR.single _),?_⟩⟩;intro VZ VV;have Wu:av VZ b1 (bR.cells ⟨0,ap,p.words.length+E.2.length,l⟩) iM:=by rw [VV];have:=VH.ct (o:=0) (i:=0) (vs:=bR.cells ⟨0,ap,p.words.length+E.2.length,l⟩);rw [pn (by simp [bR.cells])] at this;exact this
   have Vw:ao (λk=>k=b1) Xt VZ:=by rw [VV];exact hT _ _ _ _ _
   clear VV;have G:a2 VZ qo 1 ap (p.words.length+E.2.length) l (us (p.words++E.2)):=
    (((((B.az VK C).az VL C).az U I).az V C).az Vw I)
   have L:ao (λk=>k=b\/aK p.de k\/k=fo) w VZ:=
    ((VN.trans U λk f e=>by omega).trans V λk _ e=>.inl e).trans Vw λk f e=>by omega
   refine tp (d:=⟨0,ap,p.words.length+E.2.length,l⟩) (sB Wu) ⟨rfl,⟨0,ap,p.words.length+E.2.length,l⟩,dE.done { p with bD:=p.bD+1,words:=p.words++E.2,de:=ap,eN:=l } c1 fA,?_,?_,?_,?_,?_,?_,L,.inr ?_,.inr ?_,?_⟩
   ·rw [q];rfl
   ·rw [q];rfl
   ·rw [q];refine ((V1.az U (λe=>by omega) (λe=>by omega)).az V (λe=>?_) (λe=>Q e.symm)).az Vw (λe=>by omega) (λe=>by omega);have:=av.iV X.node (e▸h.aj);revert this;decide
   ·rw [q];intro y Wk;simp only [e8] at Wk;subst Wk;refine ⟨rfl,by simp [dE.pure],G.rd,?_,?_,G.le,rfl⟩
    ·intro R;rcases G.2 with ⟨_,WX,_⟩ | ⟨g,cur,WX,_⟩
     ·exact fB (by simpa [dE.pure] using WX)
     ·rw [show ap=none from R] at WX;cases WX
    ·intro u hu;rcases jL.1 hu with hu | hu
     ·exact h.sN u hu
     ·exact VI u hu
   ·intro k f;rcases Vt with VC | VC
    ·exact .inl (VC▸f)
    ·have:=VC k f;exact .inr (by omega)
   ·intro M' Y N;have We:=Vr (λk=>M' k\/k=b1) (λk f=>?_) (λk f=>.inl (N k f))
    ·refine (We.az Vw (λk f he=>?_) (λk he=>.inr he)).mA (λk _ f=>.inl f) N;rcases f with f | f | ⟨o,A⟩
     ·omega
     ·have:=V3 k f;omega
     ·cases A
    ·rcases f with f | f
     ·rcases Y k f with Z | Z | ⟨o,A⟩
      ·exact .inl ⟨by omega,.inl (.inl Z)⟩
      ·exact .inr Z
      ·cases A
     ·exact .inl ⟨by omega,.inl (.inr f)⟩
   ·intro k f;have:=V3 k f;omega
   ·rintro k ⟨o,A⟩;cases A
   ·intro k f;exact fI G f
end
section
structure cP where
 pair:c4
 bT:cQ
structure bP where
 alive:Bool
 inc:Int
 aD:List cP
 batch:Option (List aL)
 waiting:Nat
 kD:Int
 nt:Int
structure aM where
 lines:Nat
 nodes:List a0
 aX:List bP
 bV:List c4
structure fK where
 eC:Int
 a3:Int
 node:Int
def aM.dj (F:aM) (c:Int):Option bP:=if c<0 then none else F.aX[c.toNat]?
def aM.nd (F:aM) (i:Int):Option a0:=if i<0 then none else F.nodes[i.toNat]?
def bP.gk (C:bP) (k:Nat) (v:aP):bP:=
 {C with aD:=C.aD.modify v.node.toNat λl=>⟨{ l.pair with ba:=l.pair.ba++[v] },l.bT++[k]⟩ }
def bP.gN (C:bP) (k:Nat):List aP->bP
 | []=>C
 |v::vs=>(C.gk k v).gN (k+1) vs
def jz (nodes lines:Int):List aP->Int
 | []=>0
 |v::vs=>if v.v.valid nodes lines≠0 then v.v.valid nodes lines else jz nodes lines vs
def bP.kz (C:bP) (vs:List aP):bP:=
 {(C.gN 0 vs) with batch:=some (List.replicate vs.length ⟨0,[]⟩),waiting:=vs.length,kD:=IntKind.i64.wrap (C.kD+1),nt:=IntKind.i64.wrap (C.nt+vs.length) }
def aM.fp (F:aM) (c:Int) (C:bP):aM:={ F with aX:=F.aX.set c.toNat C }
def aM.post (F:aM) (c:Int) (vs:List aP):Int×aM:=
 match F.dj c with
 |none=>(1,F)
 |some C=>
  if C.alive=false then (1,F) else if C.batch.isSome then (3,F) else if vs.length=0 then (1,F) else if vs.length>1024 then (18,F)
  else if jz F.nodes.length F.lines vs≠0 then (jz F.nodes.length F.lines vs,F)
  else (0,F.fp c (C.kz vs))
def aM.waiting (F:aM) (c:Int):Nat:=match F.dj c with
 |none=>0
 |some C=>C.waiting
def aM.alive (F:aM) (c:Int):Bool:=match F.dj c with
 |none=>false
 |some C=>C.alive
def aM.kD (F:aM) (c:Int):Int:=match F.dj c with
 |none=>0
 |some C=>C.kD
def aM.take (F:aM) (c:Int):Option (List aL)×aM:=
 match F.dj c with
 |none=>(none,F)
 |some C=>if C.alive=false then (none,F) else match C.batch with
  |none=>(none,F)
  |some ds=>if 0<C.waiting then (none,F) else (some ds,F.fp c { C with batch:=none })
def kP (i:Nat):Nat->List cP->List fK
 | _,[]=>[]
 |j,l::ls=>(if 0<l.pair.ba.length then [⟨-1,i,j⟩] else [])++kP i (j+1) ls
def jQ:Nat->List bP->List fK
 | _,[]=>[]
 |i,c::cs=>kP i 0 c.aD++jQ (i+1) cs
def mh:Nat->List c4->List fK
 | _,[]=>[]
 |i,p::b_=>⟨i,p.a3,p.node⟩::mh (i+1) b_
def aM.e0 (F:aM):List fK:=jQ 0 F.aX++mh 0 F.bV
def aM.drop (F:aM) (i:Int):Bool×aM:=if i<0\/F.bV.length<=i.toNat then (false,F) else (true,{ F with bV:=F.bV.eraseIdx i.toNat })
def aM.iU (F:aM) (i:Nat):Bool×aM:=
 match F.bV[i]? with
 |none=>(false,F)
 |some p=>match F.nodes[p.node.toNat]? with
  |none=>(false,F)
  |some n=>
   let r:=p.step n;let F':={ F with nodes:=F.nodes.set p.node.toNat r.2.1,bV:=if r.1.ba.length=0 then F.bV.eraseIdx i else F.bV.set i r.1 }
   (true,F')
def bP.comes (C:bP) (j:Nat) (l:cP) (p:c4):Option aL->bP
 |none=>{ C with aD:=C.aD.set j { l with pair:=p } }
 |some d=>{ C with aD:=C.aD.set j ⟨p,l.bT.tail⟩,batch:=C.batch.map λds=>ds.set (l.bT.headD 0) d,waiting:=C.waiting - 1 }
def aM.step (F:aM) (x:fK):Bool×aM:=
 if 0<=x.eC then F.iU x.eC.toNat
 else if x.eC < -1 then (false,F)
 else match F.dj x.a3 with
  |none=>(false,F)
  |some C=>if x.node<0 then (false,F) else match C.aD[x.node.toNat]?,F.nodes[x.node.toNat]? with
   |some l,some n=>if l.pair.ba.length=0 then (false,F) else
    let r:=l.pair.step n
    (true,{ F with nodes:=F.nodes.set x.node.toNat r.2.1,aX:=F.aX.set x.a3.toNat (C.comes x.node.toNat l r.1 r.2.2) })
   | _,_=>(false,F)
def aM.die (F:aM) (c:Int):Bool×aM:=
 match F.dj c with
 |none=>(false,F)
 |some C=>if C.alive=false then (false,F) else
  (true,{ F with bV:=F.bV++(C.aD.map cP.pair).filter (λp=>decide (0<p.ba.length)),aX:=F.aX.set c.toNat { C with alive:=false,aD:=[],batch:=none,waiting:=0 } })
structure yS (i:Nat) (inc:Int) (j:Nat) (len:Nat) (l:cP):Prop where
 a3:l.pair.a3=i
 inc:l.pair.inc=inc
 node:l.pair.node=j
 bT:l.bT.length=l.pair.ba.length
 low:∀ k ∈ l.bT,k<len
 hL:l.pair.hL
def gZ (ls:List cP):Nat:=(ls.map λl=>l.pair.ba.length).sum
structure td (n:Nat) (i:Nat) (C:bP):Prop where
 inc:0<=C.inc/\C.inc<=59
 aD:C.aD.length=if C.alive then n else 0
 lane:∀ (j:Nat) (l:cP),C.aD[j]?=some l->yS i C.inc j (C.batch.getD []).length l
 waiting:C.waiting=gZ C.aD
 batch:C.waiting<=(C.batch.getD []).length/\(C.batch.getD []).length<=1024
 full:∀ ds,C.batch=some ds->0<ds.length
structure nU (F:aM):Prop where
 lines:1<=F.lines/\F.lines<=256
 nodes:1<=F.nodes.length/\F.nodes.length<=5
 words:∀ n ∈ F.nodes,n.words.length=F.lines * 8
 aX:1<=F.aX.length/\F.aX.length<=6
 a3:∀ (i:Nat) (C:bP),F.aX[i]?=some C->td F.nodes.length i C
 eC:∀ p ∈ F.bV,0<=p.node/\p.node<F.nodes.length/\p.hL
inductive Tag where
 |cr
 |cl
 |nodes
 |node (i:Nat)
 |word (i:Nat)
 |aX
 |aD (c:Nat)
 |lane (c n:Nat)
 |bT (c n:Nat)
 |batch (c:Nat)
 |fU
 |ib (b:Nat)
def iy (c:Nat):Tag->Prop
 | .aD i=>i=c
 | .lane i _=>i=c
 | .bT i _=>i=c
 | .batch i=>i=c
 | _=>False
structure dk where
 pb:Nat
 p:dE
 bT:cQ
 ky:al
 k4:Nat
def dk.pure (l:dk):cP:=⟨l.p.pure,l.bT⟩
def dk.cells (l:dk):ax:=[.pointer (some ⟨l.pb,0,none⟩),.slice l.ky l.bT.length l.k4]
structure cd where
 alive:Bool
 inc:Int
 aD:List dk
 la:al
 lc:Nat
 di:Option Nat
 raw:List bR
 batch:List aL
 waiting:Nat
 kD:Int
 nt:Int
def cd.pure (c:cd):bP:=⟨c.alive,c.inc,c.aD.map dk.pure,c.di.map λ_=>c.batch,c.waiting,c.kD,c.nt⟩
def cd.cells (c:cd):ax:=[.bool c.alive,.int .i64 c.inc,.slice c.la c.aD.length c.lc,.slice (c.di.map λb=>⟨b,0,none⟩) c.raw.length c.raw.length,.int .i64 c.waiting,.int .i64 c.kD,.int .i64 c.nt]
structure g_ where
 b:Nat
 aI:Nat
 n:a0
structure bQ where
 lines:Nat
 nodes:List g_
 na:al
 nc:Nat
 aY:Nat
 aX:List cd
 bV:List (Nat×dE)
 dy:al
 gK:Nat
def bQ.pure (X:bQ):aM:=⟨X.lines,X.nodes.map g_.n,X.aX.map cd.pure,X.bV.map λp=>p.2.pure⟩
def bQ.cells (X:bQ):ax:=[.int .i64 X.lines,.slice X.na X.nodes.length X.nc,.slice (some ⟨X.aY,0,none⟩) X.aX.length X.aX.length,.slice X.dy X.bV.length X.gK]
def ptr (b:Nat):a4:=.pointer (some ⟨b,0,none⟩)
def gY (ls:List dk):List ax:=ls.map dk.cells
def fv (cs:List cd):List ax:=cs.map cd.cells
abbrev ly:TypeId:=110
abbrev jN:TypeId:=102
abbrev lz:TypeId:=105
abbrev zo:TypeId:=92
abbrev n7:TypeId:=103
abbrev l6:TypeId:=3
structure te (A:a5) (aw:Nat->Tag) (w:ak) (i j:Nat) (l:dk):Prop where
 pair:dM A w l.pb l.p
 tag:∀ k,l.p.mut l.pb k->aw k=.lane i j
 bT:a2 w l6 1 l.ky l.bT.length l.k4 (is (l.bT.map Int.ofNat))
 sd:∀ k,aK l.ky k->aw k=.bT i j
def gS (A:a5) (w:ak) (raw:List bR) (xs:List aL):Prop:=raw.length=xs.length/\∀ (i:Nat) (v:bR) (x:aL),raw[i]?=some v->xs[i]?=some x->k1 A w v x
structure kq (A:a5) (aw:Nat->Tag) (w:ak) (i:Nat) (c:cd):Prop where
 own:a2 w lz 2 c.la c.aD.length c.lc (gY c.aD).flatten
 tag:∀ k,aK c.la k->aw k=.aD i
 lane:∀ (j:Nat) (l:dk),c.aD[j]?=some l->te A aw w i j l
 none:c.di=none->c.raw=[]/\c.batch=[]
 batch:∀ b,c.di=some b->av w b (fM c.raw).flatten iM/\aw b=.batch i
 ds:gS A w c.raw c.batch
structure u9 (aw:Nat->Tag) (w:ak) (i:Nat) (x:g_):Prop where
 node:dY w x.b x.aI x.n
 tag:aw x.b=.node i
 jJ:aw x.aI=.word i
structure bZ (A:a5) (aw:Nat->Tag) (w:ak) (aN:Nat) (X:bQ):Prop where
 fj:∀ k,aw k≠.cr->A k
 low:∀ k,A k->k<w.heap.size
 cl:av w aN X.cells ly
 gG:aw aN=.cl
 nodes:a2 w zo 1 X.na X.nodes.length X.nc (X.nodes.map λx=>ptr x.b)
 jD:∀ k,aK X.na k->aw k=.nodes
 node:∀ (i:Nat) (x:g_),X.nodes[i]?=some x->u9 aw w i x
 cls:av w X.aY (fv X.aX).flatten jN
 fb:aw X.aY=.aX
 a3:∀ (i:Nat) (c:cd),X.aX[i]?=some c->kq A aw w i c
 fU:a2 w n7 1 X.dy X.bV.length X.gK (X.bV.map λp=>ptr p.1)
 jZ:∀ k,aK X.dy k->aw k=.fU
 eC:∀ p ∈ X.bV,dM A w p.1 p.2/\∀ k,p.2.mut p.1 k->aw k=.ib p.1
 nodup:(X.bV.map Prod.fst).Nodup
structure ld (T:Tag->Prop) (A A':a5) (aw χ':Nat->Tag) (w w':ak):Prop where
 az:ao (λk=>T (aw k)) w w'
 cr:¬ T .cr
 fj:∀ k,aw k≠.cr->A k
 old:∀ k,k<w.heap.size->A' k->A k
 same:∀ k,k<w.heap.size->¬ T (aw k)->aw k≠.cr->χ' k=aw k
 l9:∀ k,χ' k≠.cr->A' k
theorem ld.r4 {T:Tag->Prop} {aw χ':Nat->Tag} (m:ld T A A' aw χ' w w'):ao A w w':=m.az.mono λk _ h=>m.fj k λe=>m.cr (by rw [e] at h;exact h)
theorem dM.cK {T:Tag->Prop} {aw χ':Nat->Tag} (m:ld T A A' aw χ' w w') {b:Nat} {p:dE} {t:Tag} (h:dM A w b p) (d:∀ k,p.mut b k->aw k=t) (i:¬ T t) (l:t≠.cr):dM A' w' b p/\∀ k,p.mut b k->χ' k=t:=by
 have g:∀ k,p.mut b k->k<w.heap.size:=by
  rintro k (rfl | a | a)
  ·exact h.aj.lt
  ·exact h.own.lt a
  ·exact h.j7.lt a
 have c:∀ k,p.mut b k->χ' k=t:=λk a=>by rw [m.same k (g k a) (by rw [d k a];exact i) (by rw [d k a];exact l),d k a]
 refine ⟨?_,c⟩;have f:=h.az m.az (λk a j=>i (by rw [d k a] at j;exact j)) (λk a=>m.fj k λe=>m.cr (by rw [e] at a;exact a));refine ⟨f.aj,f.own,f.j7,h.vs.az m.r4 λk a n=>m.old k a n,h.a3,h.inc,h.node,h.len,h.kI,h.mJ,h.ex,h.sN,λk a=>m.l9 k (by rw [c k a];exact l)⟩
theorem a2.cK {T:Tag->Prop} {aw χ':Nat->Tag} (m:ld T A A' aw χ' w w') {e sz n cap:Nat} {xs:ax} {t:Tag} (h:a2 w e sz a n cap xs) (c:∀ k,aK a k->aw k=t) (d:¬ T t) (g:t≠.cr):a2 w' e sz a n cap xs/\∀ k,aK a k->χ' k=t:=
 ⟨h.az m.az λk b f=>d (by rw [c k b] at f;exact f),λk b=>by rw [m.same k (h.lt b) (by rw [c k b];exact d) (by rw [c k b];exact g),c k b]⟩
theorem av.cK {T:Tag->Prop} {aw χ':Nat->Tag} (m:ld T A A' aw χ' w w') {b:Nat} {cs:ax} {ty:TypeId} {t:Tag} (h:av w b cs ty) (a:aw b=t) (c:¬ T t) (e:t≠.cr):av w' b cs ty/\χ' b=t:=
 ⟨m.az.aj h λd=>c (by rw [a] at d;exact d),by rw [m.same b h.lt (by rw [a];exact c) (by rw [a];exact e),a]⟩
theorem gS.az {A A':a5} {w w':ak} {raw:List bR} {xs:List aL} (h:gS A w raw xs) (b:ao A w w') (a:∀ k,k<w.heap.size->A' k->A k):gS A' w' raw xs:=
 ⟨h.1,λi v x an c=>(h.2 i v x an c).az b a⟩
theorem te.cK {T:Tag->Prop} {A A':a5} {aw χ':Nat->Tag} {w w':ak} (m:ld T A A' aw χ' w w') {i j:Nat} {l:dk} (h:te A aw w i j l) (e:¬ T (.lane i j)) (f:¬ T (.bT i j)):te A' χ' w' i j l:=by obtain ⟨a,b⟩:=dM.cK m h.pair h.tag e (by simp);obtain ⟨c,d⟩:=a2.cK m h.bT h.sd f (by simp);exact ⟨a,b,c,d⟩
theorem kq.cK {T:Tag->Prop} {A A':a5} {aw χ':Nat->Tag} {w w':ak} (m:ld T A A' aw χ' w w') {i:Nat} {c:cd} (h:kq A aw w i c) (a:∀ t,iy i t->¬ T t):kq A' χ' w' i c:=by obtain ⟨e,f⟩:=a2.cK m h.own h.tag (a _ rfl) (by simp);refine ⟨e,f,λj l g=>(h.lane j l g).cK m (a _ rfl) (a _ rfl),h.none,λb d=>?_,h.ds.az m.r4 m.old⟩;exact av.cK m (h.batch b d).1 (h.batch b d).2 (a _ rfl) (by simp)
theorem u9.cK {T:Tag->Prop} {A A':a5} {aw χ':Nat->Tag} {w w':ak} (m:ld T A A' aw χ' w w') {i:Nat} {x:g_} (h:u9 aw w i x) (e:¬ T (.node i)) (f:¬ T (.word i)):u9 χ' w' i x:=by obtain ⟨a,b⟩:=av.cK m h.node.node h.tag e (by simp);obtain ⟨c,d⟩:=av.cK m h.node.words h.jJ f (by simp);exact ⟨⟨a,c,h.node.len,h.node.ud,h.node.wf⟩,b,d⟩
def gi (A:a5) (aw χ':Nat->Tag) (w:ak) (k:Nat):Prop:=χ' k≠.cr\/(k<w.heap.size/\A k/\aw k=.cr)
structure Next (A A':a5) (aw χ':Nat->Tag) (w w':ak):Prop where
 az:ao (λk=>aw k≠.cr) w w'
 grow:∀ k,k<w.heap.size->χ' k≠.cr->aw k≠.cr
 iff:∀ k,A' k↔gi A aw χ' w k
theorem Next.refl {aw:Nat->Tag} (b:∀ k,aw k≠.cr->A k) (c:∀ k,A k->k<w.heap.size) (d:ai w w'):Next A A aw aw w w':=
 ⟨ao.b3 d,λ_ _ h=>h,λk=>⟨λh=>by
  by_cases a:aw k=.cr
  ·exact .inr ⟨c k h,h,a⟩
  ·exact .inl a,λh=>h.elim (b k) λh=>h.2.1⟩⟩
theorem Next.trans {A g j:a5} {aw f o:Nat->Tag} {w w1 n:ak} (h:Next A g aw f w w1) (d:Next g j f o w1 n):Next A j aw o w n:=by
 refine ⟨h.az.trans d.az λi s a=>h.grow i s a,λk l a=>h.grow k l (d.grow k (fX l h.az.size) a),λk=>?_⟩
 rw [d.iff k];constructor
 ·rintro (a | ⟨b,e,c⟩)
  ·exact .inl a
  ·rcases (h.iff k).1 e with a | ⟨p,q,r⟩
   ·exact absurd c a
   ·exact .inr ⟨p,q,r⟩
 ·rintro (a | ⟨b,e,c⟩)
  ·exact .inl a
  ·refine .inr ⟨fX b h.az.size,(h.iff k).2 (.inr ⟨b,e,c⟩),?_⟩;by_cases a:f k=.cr
   ·exact a
   ·exact absurd c (h.grow k b a)
theorem Next.new {A a:a5} {aw c:Nat->Tag} {w w1 b:ak} (h:Next A a aw c w w1) (d:ai w1 b):Next A a aw c w b:=⟨h.az.new d,h.grow,h.iff⟩
theorem bZ.move {T:Tag->Prop} {aw χ':Nat->Tag} {X:bQ} (h:bZ A aw w aN X) (f:ao (λk=>T (aw k)) w w') (d:¬ T .cr)
  (c:∀ k,k<w.heap.size->χ' k≠.cr->aw k≠.cr) (j:∀ k,k<w.heap.size->¬ T (aw k)->aw k≠.cr->χ' k=aw k):ld T A (gi A aw χ' w) aw χ' w w'/\Next A (gi A aw χ' w) aw χ' w w':=by
 refine ⟨⟨f,d,h.fj,λk b a=>?_,j,λk i=>.inl i⟩,⟨f.mono λk _ g e=>d (by rw [e] at g;exact g),c,λk=>Iff.rfl⟩⟩
 rcases a with a | a
 ·exact h.fj k (c k b a)
 ·exact a.2.1
theorem bZ.new {A:a5} {aw:Nat->Tag} {w w':ak} {aN:Nat} {X:bQ} (h:bZ A aw w aN X) (a:ai w w'):bZ A aw w' aN X:=by
 have m:ld (λ_=>False) A A aw aw w w':=⟨a,id,h.fj,λ_ _ h=>h,λ_ _ _ _=>rfl,h.fj⟩;refine ⟨h.fj,λk b=>fX (h.low k b) a.size,ai.aj a h.cl,h.gG,h.nodes.new a,h.jD,λi x e=>(h.node i x e).cK m id id,ai.aj a h.cls,h.fb,
  λi c b=>(h.a3 i c b).cK m λ_ _=>id,h.fU.new a,h.jZ,λp d=>⟨(h.eC p d).1.new a,(h.eC p d).2⟩,h.nodup⟩
theorem bZ.mA {aw:Nat->Tag} {X:bQ} (h:bZ A aw w aN X) (d:∀ k,A' k->A k) (e:∀ k,aw k≠.cr->A' k):bZ A' aw w aN X:=by
 have m:ld (λ_=>False) A A' aw aw w w:=⟨ao.refl _ _,id,h.fj,λk _=>d k,λ_ _ _ _=>rfl,e⟩;refine ⟨e,λk a=>h.low k (d k a),h.cl,h.gG,h.nodes,h.jD,h.node,h.cls,h.fb,
  λi c a=>(h.a3 i c a).cK m λ_ _=>id,h.fU,h.jZ,λp b=>⟨(dM.cK m (h.eC p b).1 (h.eC p b).2 id (by simp)).1,(h.eC p b).2⟩,h.nodup⟩
theorem bZ.other {S:a5} {aw:Nat->Tag} {X:bQ} (h:bZ A aw w aN X) (f:ao S w w') (y:∀ k,S k->A k/\aw k=.cr):bZ A aw w' aN X:=by
 have q:∀ {b:Nat} {cs:ax} {T:TypeId} {t:Tag},av w b cs T->aw b=t->t≠.cr->av w' b cs T:=λq B z=>f.aj q λd=>z (by rw [<-B];exact (y _ d).2)
 have u:∀ {e sz n cap:Nat} {a:al} {xs:ax} {t:Tag},a2 w e sz a n cap xs->(∀ k,aK a k->aw k=t)->t≠.cr->a2 w' e sz a n cap xs:=λu B z=>u.az f λk f d=>z (by rw [<-B k f];exact (y _ d).2)
 have C:∀ {b:Nat} {p:dE} {t:Tag},dM A w b p->(∀ k,p.mut b k->aw k=t)->t≠.cr->dM A w' b p:=λC B z=>C.az f (λk f d=>z (by rw [<-B k f];exact (y _ d).2)) (λk d=>(y k d).1)
 have D:ao A w w':=f.mono λk _ d=>(y k d).1
 refine ⟨h.fj,λk d=>fX (h.low k d) f.size,q h.cl h.gG (by simp),h.gG,u h.nodes h.jD (by simp),h.jD,λi x E=>?_,q h.cls h.fb (by simp),h.fb,λi c d=>?_,
  u h.fU h.jZ (by simp),h.jZ,λp s=>⟨C (h.eC p s).1 (h.eC p s).2 (by simp),(h.eC p s).2⟩,h.nodup⟩
 ·have g:=h.node i x E;exact ⟨⟨q g.node.node g.tag (by simp),q g.node.words g.jJ (by simp),g.node.len,g.node.ud,g.node.wf⟩,g.tag,g.jJ⟩
 ·have d:=h.a3 i c d;refine ⟨u d.own d.tag (by simp),d.tag,λj l o=>?_,d.none,λb r=>⟨q (d.batch b r).1 (d.batch b r).2 (by simp),(d.batch b r).2⟩,d.ds.az D λ_ _ h=>h⟩;have o:=d.lane j l o;exact ⟨C o.pair o.tag (by simp),o.tag,u o.bT o.sd (by simp),o.sd⟩
theorem nh (ls:List dk):∀ r ∈ gY ls,r.length=2:=by intro r a;simp only [gY,cW] at a;obtain ⟨l,_,rfl⟩:=a;rfl
theorem Aw (cs:List cd):∀ r ∈ fv cs,r.length=7:=by intro r a;simp only [fv,cW] at a;obtain ⟨l,_,rfl⟩:=a;rfl
theorem mi {ls:List dk} {l:dk} (h:ls[i]?=some l):(gY ls)[i]?=some l.cells:=by simp [gY,h]
theorem uB {cs:List cd} {c:cd} (h:cs[i]?=some c):(fv cs)[i]?=some c.cells:=by simp [fv,h]
theorem r_ (cs:List cd) (i:Nat) (c:cd):(fv cs).set i c.cells=fv (cs.set i c):=by simp [fv]
theorem GT (ls:List dk) (i:Nat) (l:dk):(gY ls).set i l.cells=gY (ls.set i l):=by simp [gY]
theorem Je (ds:List bR) (i:Nat) (d:bR):(fM ds).set i d.cells=fM (ds.set i d):=by simp [fM]
theorem bZ.h' {aw:Nat->Tag} {X:bQ} (h:bZ A aw w aN X) {k:Nat} {c:cd} (a:X.aX[i]?=some c) (an:c.cells[k]?=some v):w.cell? ⟨X.aY,0+i * 7+k,none⟩=some v:=by rw [g3];exact h.cls.cell (xQ (Aw _) (uB a) an)
theorem bQ.rU (X:bQ) (c:Int):(X.pure.dj c=none/\(c<0\/(X.aX.length:Int)<=c))\/∃ i x,c=(i:Nat)/\X.aX[i]?=some x/\X.pure.dj c=some x.pure:=by
 unfold aM.dj;by_cases b:c<0
 ·exact .inl ⟨by rw [if_pos b],.inl b⟩
 ·rw [if_neg b];cases a:X.aX[c.toNat]? with
  |none=>exact .inl ⟨by simp [bQ.pure,a],.inr (by have:=List.getElem?_eq_none_iff.1 a;omega)⟩
  |some x=>exact .inr ⟨c.toNat,x,by omega,a,by simp [bQ.pure,a]⟩
theorem uh {aw:Nat->Tag} {X:bQ} (h:bZ A aw w aN X) {c:Int} (d:c<0\/(X.aX.length:Int)<=c) :
  a_ 44 [ptr aN,.int .i64 c] w λv w'=>v=.pointer none/\w'=w:=by
 refine bc Tryz.func44 ?_;rw [ptr,Fj];refine a' (λ_=>⟨rfl,rfl⟩) (λa=>?_)
 exact ⟨_,_,_,h.cl.cell rfl,a' (λ_=>⟨rfl,rfl⟩) (λb=>by omega)⟩
theorem r6 {aw:Nat->Tag} {X:bQ} (h:bZ A aw w aN X) {x:cd} (a:X.aX[i]?=some x) :
  a_ 44 [ptr aN,.int .i64 i] w λv w'=>v=.pointer (some ⟨X.aY,0+i * 7,none⟩)/\w'=w:=by
 refine bc Tryz.func44 ?_;rw [ptr,Fj];have:=ch a;refine a' (λ_=>by omega) (λb=>⟨_,_,_,h.cl.cell rfl,a' (λ_=>by omega) (λc=>⟨_,_,_,h.cl.cell rfl,ed (by omega) (by omega) ⟨rfl,rfl⟩⟩)⟩)
theorem C6 {aw:Nat->Tag} {X:bQ} (h:bZ A aw w aN X) (c:Int):a_ 43 [ptr aN,.int .i64 c] w λv w'=>v=.bool (X.pure.alive c)/\w'=w:=by
 refine bc Tryz.func43 ?_;rw [ptr,SV];unfold aM.alive;rcases X.rU c with ⟨a,b⟩ | ⟨i,x,rfl,a,b⟩
 ·refine aC (uh h b) ?_;rintro v w' ⟨rfl,rfl⟩;rw [a];exact ⟨_,rfl,rfl,rfl⟩
 ·refine aC (r6 h a) ?_;rintro v w' ⟨rfl,rfl⟩;rw [b];exact ⟨_,rfl,⟨_,h.h' (k:=0) a rfl,rfl,rfl⟩⟩
theorem Jf {aw:Nat->Tag} {X:bQ} (h:bZ A aw w aN X) (c:Int):a_ 63 [ptr aN,.int .i64 c] w λv w'=>v=.int .i64 (X.pure.waiting c)/\w'=w:=by
 refine bc Tryz.func63 ?_;rw [ptr,RS];unfold aM.waiting;rcases X.rU c with ⟨a,b⟩ | ⟨i,x,rfl,a,b⟩
 ·refine aC (uh h b) ?_;rintro v w' ⟨rfl,rfl⟩;rw [a];exact ⟨_,rfl,rfl,rfl⟩
 ·refine aC (r6 h a) ?_;rintro v w' ⟨rfl,rfl⟩;rw [b];exact ⟨_,rfl,⟨_,h.h' (k:=4) a rfl,rfl,rfl⟩⟩
theorem yM {aw:Nat->Tag} {X:bQ} (h:bZ A aw w aN X):a_ 38 [ptr aN] w λv w'=>v=.int .i64 X.nodes.length/\w'=w:=by refine bc Tryz.func38 ?_;rw [ptr,SU];exact ⟨_,_,_,h.cl.cell rfl,rfl,rfl⟩
theorem sH {e cap:Nat} {b_:ax} {n:Nat} (h:a2 w e 1 a n cap b_) (an:b_[i]?=some v) {K:aU->Prop} {z:Int} (au:z=i) (f:∀ bw,w.cell? bw=some v->(∃ g,a=some ⟨g,0,none⟩/\bw=⟨g,0+i * 1,none⟩)->K bw):bk a n z 1 K:=by
 subst au;have o:=ch an;have k:=h.1;rcases h.2 with ⟨_,b,_⟩ | ⟨g,cur,rfl,c,hle,l,hlen,j⟩
 ·subst b;omega
 ·refine ed (by omega) (by omega) ?_;refine f _ ?_ ⟨g,rfl,by simp⟩;have d:cur[i]?=some v:=by
   rw [<-j] at an;rw [oN] at an;split at an
   ·exact an
   ·cases an
  have:=c.cell d;simpa using this
theorem Ax {aw:Nat->Tag} {X:bQ} (h:bZ A aw w aN X) {x:g_} (a:X.nodes[i]?=some x):a_ 39 [ptr aN,.int .i64 i] w λv w'=>v=ptr x.b/\w'=w:=by refine bc Tryz.func39 ?_;rw [ptr,Th];have:=ch a;refine a' (λ_=>by omega) (λd=>⟨_,_,_,h.cl.cell rfl,a' (λ_=>by omega) (λe=>⟨_,_,_,h.cl.cell rfl,?_⟩)⟩);exact sH (v:=ptr x.b) (i:=i) h.nodes (by simp [a]) rfl λbw c _=>⟨_,c,rfl,rfl⟩
theorem bZ.setNode {aw:Nat->Tag} {X:bQ} (h:bZ A aw w aN X) {x:g_} (g:X.nodes[i]?=some x) {n':a0} (l:ao (λk=>k=x.b\/k=x.aI) w w') (q:dY w' x.b x.aI n') :
  ∃ A',Next A A' aw aw w w'/\bZ A' aw w' aN { X with nodes:=X.nodes.set i { x with n:=n' } }:=by
 have d:=h.node i x g;obtain ⟨m,aQ⟩:=h.move (χ':=aw) (T:=λt=>t=.node i\/t=.word i) (w':=w') (l.mono λk _ a=>a.elim (λe=>.inl (e▸d.tag)) (λe=>.inr (e▸d.jJ))) (by simp) (λ_ _ h=>h) (λ_ _ _ _=>rfl);refine ⟨_,aQ,m.l9,λk a=>fX (a.elim (λa=>h.low k (h.fj k a)) (λa=>a.1)) l.size,?_,h.gG,?_,h.jD,?_,(av.cK m h.cls h.fb (by simp) (by simp)).1,h.fb,λj c a=>(h.a3 j c a).cK m ?_,(a2.cK m h.fU h.jZ (by simp) (by simp)).1,h.jZ,λp o=>dM.cK m (h.eC p o).1 (h.eC p o).2 (by simp) (by simp),h.nodup⟩
 ·have:=(av.cK m h.cl h.gG (by simp) (by simp)).1;simpa [bQ.cells] using this
 ·have:=(a2.cK m h.nodes h.jD (by simp) (by simp)).1;have e:((X.nodes.set i { x with n:=n' }).map λx=>ptr x.b)=X.nodes.map λx=>ptr x.b:=by
   rw [il];apply j';intro k;rw [ik];split
   ·rename_i he;subst he;split
    ·simp [g]
    ·rename_i a;exact absurd (ch g) (by simpa using a)
   ·rfl
  rw [e];simpa using this
 ·intro j y f;simp only [ik] at f;split at f
  ·rename_i he;subst he;split at f
   ·simp only [e8] at f;subst f;exact ⟨q,d.tag,d.jJ⟩
   ·cases f
  ·rename_i he;exact (h.node j y f).cK m (by simp;exact λe=>he e.symm) (by simp;exact λe=>he e.symm)
 ·intro t r;cases t<;>simp [iy] at r ⊢
end
end Go.Proofs.YtmkljjbioomepaaGreat
