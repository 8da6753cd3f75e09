import Derived.Test.YtmkljjbioomepaaGreatb09
set_option linter.all false
set_option maxHeartbeats 4000000
set_option maxRecDepth 100000
namespace Go.Proofs.YtmkljjbioomepaaGreat
open Go.Proofs.Tryz Go.bu
variable {A A':a3} {a:an} {aI i:Nat} {v:a2} {w w':ak}
section
theorem DG {M:a3} {b fF fr:Nat} {p:dG} {n:aZ} (h:dK M w b p) (X:dZ w fF fr n) (WK:M fr) (Yp:M fF) (Xq:¬ aL p.df fr) (Ys:p.pure.hO) :
  a9 70 [.pointer (some ⟨b,0,none⟩),.pointer (some ⟨fF,0,none⟩)] w (yc M b fF fr p n w):=by
 refine bc Tryz.func70 ?_;rw [Tj];rintro b1 w1 Xz WR;obtain ⟨WH,Ww⟩:=bl Xz WR;have XR:w1.heap.size=w.heap.size+1:=by rw [WR];simp
 clear WR;have WN:=h.new Ww;have Yj:=X.new Ww;have XB:=h.aj.lt;have Yq:=X.node.lt;have X9:=X.words.lt;have W:∀ k,aL p.df k->k<w.heap.size:=λk f=>h.kg.lt f
 have V':∀ k,aL p.c4 k->k<w.heap.size:=λk f=>h.own.lt f
 refine ⟨_,_,_,WN.aj.cell rfl,dY (λhe=>?_) (λhe=>?_)⟩
 ·have XU:p.ba=[]:=fI (by omega);have q:p.pure.step n=(p.pure,n,none):=Lq XU;refine ⟨gg (vs:=bO.cells ⟨0,none,0,0⟩) WH (by simp [bO.cells]) (bO.single _),?_⟩;intro YC XZ;obtain ⟨XE,WL⟩:=oF (vs:=bO.cells ⟨0,none,0,0⟩) WH (by simp [bO.cells]) Ww (by omega) XZ;refine tN (d:=⟨0,none,0,0⟩) (sQ XE) ⟨rfl,⟨0,none,0,0⟩,p,?_,?_,?_,?_,?_,?_,ao.b4 WL,.inl rfl,.inl rfl,?_⟩
  ·rw [q];rfl
  ·rw [q]
  ·rw [q];exact X.new WL
  ·rw [q];intro x Yw;cases Yw
  ·rintro k ⟨o,A⟩;cases A
  ·intro M' Y N;refine (h.new WL).mF (λk _ f=>?_) N;rcases Y k f with f | f | f
   ·exact f.2
   ·exact h.iD k (.inr (.inl f))
   ·exact h.iD k (.inr (.inr f))
  ·rintro k ⟨o,A⟩;cases A
 obtain ⟨x,xs,V3⟩:∃ x xs,p.ba=x::xs:=by
  cases XM:p.ba with
  |nil=>rw [XM] at he;simp at he
  |cons x xs=>exact ⟨x,xs,rfl⟩
 obtain ⟨v,vs,Xo⟩:∃ v vs,p.raw=v::vs:=by
  cases XM:p.raw with
  |nil=>have:=h.vs.1;rw [XM,V3] at this;simp at this
  |cons v vs=>exact ⟨v,vs,rfl⟩
 have al:cF M w v x:=h.vs.2 0 v x (by rw [Xo];rfl) (by rw [V3];rfl);have q:=J8 (p:=p.pure) (n:=n) V3;refine ⟨_,_,_,WN.aj.cell rfl,?_⟩;obtain ⟨YA,dy,XW,XD,Yk⟩:=WN.own.rd.row (uT p.raw) (by omega) (i:=0) (r:=v.cells) (by rw [Xo];rfl);rw [XW];refine ee (by omega) (by omega) ?_;refine iY (v:=v) (by simpa using XD) ?_;rintro aA Yx XA WS;obtain ⟨WW,XJ⟩:=bl XA WS;have XS:Yx.heap.size=w.heap.size+2:=by rw [WS];simp [XR]
 clear WS;refine ⟨gg (vs:=aG.cells v) WW (by simp [aG.cells]) (aG.single v),?_⟩;intro Yf WT;have Yt:Yf.heap.size=w.heap.size+2:=by rw [WT,A3,XS]
 obtain ⟨Xr,Xi⟩:=oF (vs:=aG.cells v) WW (by simp [aG.cells]) XJ (by omega) WT;clear WT WW;have V9:Go.bu.ai w Yf:=Ww.new Xi;have XF:=ai.aj Xi WH;refine iY (v:=v) (g4 Xr) ?_;refine aC (J6 (h.new V9) (X.new V9) (al.az (ao.b4 V9) λ_ _ h=>h)) ?_;rintro r X5 ⟨rfl,Wv⟩;have Wo:=V9.new Wv;have W6:=ai.aj Wv XF;have Xs:=ai.aj Wv Xr;have Yu:=Wv.size;have We:b1≠b:=by omega
 have WD:∀ k,p.mut b k->k<w.heap.size:=λk f=>by
  rcases f with rfl | f | f
  ·exact XB
  ·exact V' k f
  ·exact W k f
 have X8:dK (λk=>(k<w.heap.size/\M k)\/k=b1) X5 b p:=by
  refine (h.mF (λk Xg f=>?_) (λk f=>.inl ⟨WD k f,h.iD k f⟩)).new Wo;rcases f with f | f
  ·exact f.2
  ·omega
 have X7:aA≠b:=by omega
 refine ⟨_,rfl,dw (λXK=>?_) (λau=>?_)⟩
 ·
  rw [if_pos XK] at q;refine aC (Bw X8 (by rw [V3];simp)) ?_;rintro r Yy ⟨rfl,c4,fH,V2,Xd,W_⟩;have W7:=Xd.aj W6 We;refine ⟨rfl,gg (vs:=bO.cells ⟨p.pure.refusal x n,none,0,0⟩) W7 (by simp [bO.cells]) (bO.single _),?_⟩;intro X6 WU;have XG:av X6 b1 (bO.cells ⟨p.pure.refusal x n,none,0,0⟩) iR:=by rw [WU];have:=W7.cr (o:=0) (i:=0) (vs:=bO.cells ⟨p.pure.refusal x n,none,0,0⟩);rw [pt (by simp [bO.cells])] at this;exact this
  have Xe:ao (λk=>k=b1) Yy X6:=by rw [WU];exact h0 _ _ _ _ _
  clear WU;have L:ao (λk=>k=b) w X6:=((ao.b4 Wo).trans Xd λ_ _ h=>h).trans Xe λk f he=>by omega
  refine tN (d:=⟨p.pure.refusal x n,none,0,0⟩) (sQ XG) ⟨rfl,⟨p.pure.refusal x n,none,0,0⟩,p.done c4 fH,?_,?_,?_,?_,?_,?_,L.mono (λk _ e=>.inl e),.inr ?_,?_,?_⟩
  ·rw [q];rfl
  ·rw [q];rfl
  ·rw [q];refine X.az L (λe=>?_) (λe=>?_)
   ·have:=av.i_ X.node (e▸h.aj);revert this;decide
   ·have:=av.i_ X.words (e▸h.aj);revert this;decide
  ·rw [q];intro y WV;simp only [fe] at WV;subst WV;exact ⟨rfl,rfl,bh.nil _ _,λ_=>rfl,by simp,by simp,rfl⟩
  ·rintro k ⟨o,A⟩;cases A
  ·intro M' Y N;have WP:=V2 (λk=>M' k\/k=b1) (λk f=>?_) (λk f=>.inl (N k f))
   ·refine (WP.az Xe (λk f he=>?_) (λk he=>.inr he)).mF (λk _ f=>.inl f) N;rcases f with f | f | ⟨o,A⟩
    ·omega
    ·have:=W_ k f;omega
    ·cases A
   ·rcases f with f | f
    ·rcases Y k f with Z | Z | ⟨o,A⟩
     ·exact .inl ⟨by omega,.inl Z⟩
     ·exact .inr Z
     ·cases A
    ·exact .inl ⟨by omega,.inr f⟩
  ·intro k f;have:=W_ k f;omega
  ·right;rintro k ⟨o,A⟩;cases A
  ·rintro k ⟨o,A⟩;cases A
 ·
  rw [if_neg (λR=>R au)] at q;obtain ⟨XT,XY⟩:=HK au;obtain ⟨W1,Xc⟩:=xT XY;have Xb:=pr Xc;have XL:=X.len;have XI:x.v.dd=(x.at_+x.v.count - 1) / 8:=rfl;have W0:x.v.bX=x.at_:=rfl;have W8:x.at_+x.v.count<=n.words.length:=by have Wb:=Xb.2.2.2.2.2.2.2.2.2.1;rw [XI] at Wb;omega
  have Xl:=Ys x xs V3;have Wq:x.v.pieces[p.bF]?=some (x.v.pieces.getD p.bF (0,0)):=by have:p.bF<x.v.pieces.length:=Xl;simp [this]
  have XP:x.v.pieces.length<=1024:=by have:=xz x.v.count.toNat x.v.bX x.v.count;have YB:=Xb.2.2.2.2.2.2.2.2.1;show (hz _ _ _).length<=1024;omega
  have H:=Ap x.v.count.toNat x.v.bX x.v.count (by omega) _ (b7 Wq);have XN:p.pure.bF=p.bF:=rfl;rw [XN] at q;generalize X_:x.v.pieces.getD p.bF (0,0)=pc at Wq H q;refine iY (v:=v) (g4 Xs) ?_;refine aC (Lk _ v (by rw [al.at_];omega) (by rw [al.at_];omega) (by rw [al.count];exact W1) (by rw [al.count];omega)) ?_;rintro r Yz ⟨pa,Yd,rfl,WG,Xf,XO⟩;rw [al.pieces] at WG;refine ⟨_,_,_,rfl,?_⟩;intro Xw Xp;have WJ:Go.bu.ai Yz Xw:=by rw [Xp];exact cE _
  clear Xp;have V_:=(Wo.new Xf).new WJ;have V8:=Xf.new WJ;have Yv:=V8.size;have WO:=X8.new V8;have Xy:=X.new V_;have XH:=ai.aj V8 W6;have X1:=ai.aj V8 Xs;have WQ:=WG.new WJ;have Q:b≠fr:=by intro e;have:=av.i_ X.words (e▸h.aj);revert this;decide
  have Wf:¬ aL p.df b:=by intro R;obtain ⟨cs,D⟩:=fM h.kg R;have:=av.i_ D h.aj;revert this;decide
  obtain ⟨X3,Ye,Xk,_,XQ⟩:=WQ.row (Jx _) (by omega) (Jy Wq);have Yr:X5.heap.size<=X3:=by have:=XO X3 (by rw [Xk];exact ⟨Ye,rfl⟩);exact this
  have Xm:∀ u,ao (λk=>k=fr\/aL p.df k) Xw u->b6 u ⟨X3,Ye+p.bF * 2,none⟩ 0 [.int .i64 pc.1,.int .i64 pc.2]:=by
   intro u hu;refine kX λj bj Yo=>jE hu ?_ ?_
   ·have:=XQ j bj Yo;simpa using this
   ·rintro (R | R)
    ·simp at R <;> omega
    ·have:=W _ R;simp at this <;> omega
  refine ⟨λu=>ao (λk=>k=fr\/aL p.df k) Xw u,ao.refl _ _,_,_,_,λu hu=>(hu.aj WO.aj (λR=>R.elim Q Wf)).cell rfl,
   mG (v:=v) (λu hu=>g4 (hu.aj X1 (λR=>R.elim (λe=>by omega) (λe=>by have:=W _ e;omega)))) ⟨_,λu hu=>(hu.aj WO.aj (λR=>R.elim Q Wf)).cell rfl,?_⟩⟩
  rw [Xk];have W9:p.bF<x.v.pieces.length:=Xl;refine ee (by omega) (by rw [al.pieces];omega) ⟨pc.1,pc.2,λu hu=>by simpa using Xm u hu,?_⟩;have XV:cF M Xw v x:=al.az (ao.b4 V_) λ_ _ h=>h
  have WM:x.words=[]\/gl (λk=>k=fr) v.Words:=by
   rcases al.off with A | A
   ·exact .inl A
   ·refine .inr ?_;cases eW:v.Words with
    |none=>trivial
    |some a=>rw [eW] at A;intro R;exact A (by rw [R];exact WK)
  refine aC (J7 Xy XT XV WM (by rw [<-W0];exact H.1) H.2.1 H.2.2.1 (by rw [<-W0];exact H.2.2.2) (by omega) W8) ?_;rintro r Xt ⟨Yh,WZ,rfl,WB,Yl,Wz,S⟩;have Wh:=Mq X x pc;have WI:=Lr (x:=x) (n:=n) H.2.2.1 H.2.1;generalize ay:exec x pc n=E at WB Wz q Wh WI;have X':=S.size;refine ⟨_,_,_,rfl,S.mono (λk _ e=>.inl e),?_⟩;have Wp:dK (λk=>(k<w.heap.size/\M k)\/k=b1) Xt b p:=by
   refine WO.az S (λk f he=>?_) (λk he=>.inl ⟨by omega,by rw [he];exact WK⟩);rcases f with f | f | f
   ·exact Q (f.symm.trans he)
   ·obtain ⟨cs,D⟩:=fM h.own f;have:=av.i_ D (he▸X.words);revert this;decide
   ·exact Xq (he▸f)
  have X0:=h.kN;obtain ⟨inf,Yn,X2,Wx,XC⟩:=fO (T:=qv) (z:=.int .u64 0) (n:=1) (m:=8) (by kernel_rfl);have WE:=Wp.kg;rw [<-Wx] at WE;obtain ⟨ap,l,WX,Xn,B,Wi,Wc⟩:=WE.append (P:=prog) (t:=94) (ty:=94) Tryz.underlying94 Yn X2 (by rw [Wx];rfl) (by omega)
   (s:=Yh) (m:=E.2.length) (c:=WZ) (news:=us E.2) (by rw [Wx,hE];omega) WB (pz _) (by omega) (by rw [XC];omega)
  rw [Wx,AV] at B;refine ⟨ap,p.words.length+E.2.length,l,WX,Xn,(S.mono (λk _ e=>.inl e)).trans Wi (λk _ f=>.inr f),?_⟩;have O:av WX b p.cells qt:=Wi.aj Wp.aj Wf;refine ⟨⟨_,O.cell rfl⟩,O.frozen,?_⟩;intro WY Wr;have Wj:ao (λk=>k=b) WX WY:=by rw [Wr];exact eY _ _ _ _
  have V5:av WY b (p.cells.set 5 (.slice ap (p.words.length+E.2.length) l)) qt:=by rw [Wr];exact O.setCell _
  clear Wr;refine ⟨_,V5.cell rfl,⟨_,V5.cell rfl⟩,V5.frozen,?_⟩;intro F Wa;have Wk:ao (λk=>k=b) WY F:=by rw [Wa];exact eY _ _ _ _
  have Yi:IntKind.i64.wrap ((p.bF:Int)+1)=((p.bF+1:Nat):Int):=by rw [bC (by omega) (by omega)];rfl
  rw [Yi] at Wa;have Wd:av F b ((p.cells.set 5 (.slice ap (p.words.length+E.2.length) l)).set 4 (.int .i64 (p.bF+1:Nat))) qt:=by rw [Wa];exact V5.setCell _
  clear Wa;have V4:ap=p.df\/∀ k,aL ap k->X5.heap.size<=k:=by
   rcases Wc with Wc | Wc
   ·exact .inl Wc
   ·refine .inr ?_;rintro k ⟨o,A⟩;rw [Wc] at A;simp at A <;> omega
  have J:ao (λk=>k=b\/aL p.df k) Xt F:=((Wi.mono λk _ f=>.inr f).trans Wj λk _ f=>.inl f).trans Wk λk _ f=>.inl f
  have K:ao (λk=>k=b\/aL p.df k\/k=fr) Xw F:=(S.mono λk _ f=>.inr (.inr f)).trans J λk _ f=>f.elim .inl λe=>.inr (.inl e)
  have WA:dZ F fF fr E.1:=by
   refine Wz.az J ?_ ?_
   ·rintro (e | e)
    ·have:=av.i_ X.node (e▸h.aj);revert this;decide
    ·obtain ⟨cs,D⟩:=fM h.kg e;have:=av.i_ D X.node;revert this;decide
   ·rintro (e | e)
    ·exact Q e.symm
    ·exact Xq e
  have V6:av F b1 _ iR:=K.aj XH (by rintro (e | e | e);exact We e;have:=W _ e;omega;omega);have WF:dK (λk=>((k<w.heap.size/\M k)\/k=b1)\/aL ap k) F b { p with bF:=p.bF+1,words:=p.words++E.2,df:=ap,eN:=l }:=by
   have Wn:∀ k,p.mut b k->k<w.heap.size/\M k:=λk f=>⟨WD k f,h.iD k f⟩
   have XX:∀ k,aL p.c4 k->¬ (k=b\/aL p.df k):=by
    rintro k f (e | e)
    ·obtain ⟨cs,D⟩:=fM h.own f;have:=av.i_ D (e▸h.aj);revert this;decide
    ·obtain ⟨cs,D⟩:=fM h.own f;obtain ⟨Yg,W2⟩:=fM h.kg e;have:=av.i_ D W2;revert this;decide
   have C:∀ k,aL ap k->k≠b:=by rintro k f e;obtain ⟨cs,D⟩:=fM B f;have:=av.i_ D (e▸O);revert this;decide
   refine ⟨?_,Wp.own.az J XX,?_,?_,h.a1,h.inc,h.node,h.len,?_,h.mO,?_,?_,?_⟩
   ·have e:dG.cells { p with bF:=p.bF+1,words:=p.words++E.2,df:=ap,eN:=l }=(p.cells.set 5 (.slice ap (p.words.length+E.2.length) l)).set 4 (.int .i64 (p.bF+1:Nat)):=by simp only [dG.cells,dI];rfl
    rw [e];exact Wd
   ·show a0 F qv 1 ap (p.words++E.2).length l (us (p.words++E.2));rw [dI];exact (B.az Wj C).az Wk C
   ·show ep _ F p.raw p.ba;refine h.vs.az ((ao.b4 V_).trans (M:=M) K ?_) ?_
    ·rintro k _ (e | e | e)
     ·exact h.iD k (.inl e)
     ·exact h.iD k (.inr (.inr e))
     ·rw [e];exact WK
    ·rintro k Xg ((f | f) | f)
     ·exact f.2
     ·omega
     ·rcases V4 with e | e
      ·exact h.iD k (.inr (.inr (e▸f)))
      ·have:=e k f;omega
   ·show (p.words++E.2).length<=8 * (p.bF+1);rw [dI];omega
   ·show match p.ba with | []=>p.bF+1=0 | x::_=>p.bF+1<=x.v.pieces.length
    rw [V3];exact W9
   ·intro u hu;rcases jT.1 hu with hu | hu
    ·exact h.s4 u hu
    ·exact Wh u hu
   ·rintro k (e | e | e)
    ·exact .inl (.inl (Wn k (.inl e)))
    ·exact .inl (.inl (Wn k (.inr (.inl e))))
    ·exact .inr e
  have Ya:=K.size;have I:∀ k,aL ap k->k≠b1:=by
   intro k f e;rcases V4 with Wb | Wb
   ·have:=W k (Wb▸f);omega
   ·have:=Wb k f;omega
  have C:∀ k,aL ap k->k≠b:=by rintro k f e;obtain ⟨cs,D⟩:=fM B f;have:=av.i_ D (e▸O);revert this;decide
  have Wm:ao (λk=>k=b\/aL p.df k\/k=fr) w F:=(ao.b4 V_).trans K λ_ _ h=>h
  refine ⟨_,Wd.cell rfl,?_⟩;rw [al.pieces];refine a8 (λXg=>?_) (λYm=>?_)
  ·
   have Xh:p.bF+1<x.v.pieces.length:=by omega
   rw [if_pos Xh] at q;refine ⟨gg (vs:=bO.cells ⟨0,none,0,0⟩) V6 (by simp [bO.cells]) (bO.single _),?_⟩;intro Xu Ws;have W3:av Xu b1 (bO.cells ⟨0,none,0,0⟩) iR:=by rw [Ws];have:=V6.cr (o:=0) (i:=0) (vs:=bO.cells ⟨0,none,0,0⟩);rw [pt (by simp [bO.cells])] at this;exact this
   have Wl:ao (λk=>k=b1) F Xu:=by rw [Ws];exact h0 _ _ _ _ _
   clear Ws;refine tN (d:=⟨0,none,0,0⟩) (sQ W3) ⟨rfl,⟨0,none,0,0⟩,{ p with bF:=p.bF+1,words:=p.words++E.2,df:=ap,eN:=l },?_,?_,?_,?_,?_,?_,?_,.inl rfl,?_,?_⟩
   ·rw [q];rfl
   ·rw [q];rfl
   ·rw [q];refine WA.az Wl (λe=>?_) (λe=>?_)
    ·omega
    ·omega
   ·rw [q];intro y WV;cases WV
   ·rintro k ⟨o,A⟩;cases A
   ·intro M' Y N;refine (WF.az Wl (λk f he=>?_) (λk he=>.inl (.inr he))).mF (λk _ f=>?_) N
    ·rcases f with f | f | f
     ·omega
     ·have:=V' k f;omega
     ·exact I k f he
    ·rcases Y k f with f | f | f
     ·exact .inl (.inl f)
     ·exact .inl (.inl ⟨V' k f,h.iD k (.inr (.inl f))⟩)
     ·exact .inr f
   ·exact Wm.trans Wl λk f e=>by omega
   ·rcases V4 with Wb | Wb
    ·exact .inl Wb
    ·exact .inr λk f=>by have:=Wb k f;omega
   ·rintro k ⟨o,A⟩;cases A
  ·
   have Xa:¬ p.bF+1<x.v.pieces.length:=by omega
   rw [if_neg Xa] at q;refine ⟨_,_,_,Wd.cell rfl,gg (vs:=bO.cells ⟨0,ap,p.words.length+E.2.length,l⟩) V6 (by simp [bO.cells]) (bO.single _),?_⟩;intro Xv Wt;have W4:av Xv b1 (bO.cells ⟨0,ap,p.words.length+E.2.length,l⟩) iR:=by rw [Wt];have:=V6.cr (o:=0) (i:=0) (vs:=bO.cells ⟨0,ap,p.words.length+E.2.length,l⟩);rw [pt (by simp [bO.cells])] at this;exact this
   have U:ao (λk=>k=b1) F Xv:=by rw [Wt];exact h0 _ _ _ _ _
   clear Wt;have Yb:=U.size;have Xj:=WF.az U (λk f he=>by
    rcases f with f | f | f
    ·omega
    ·have:=V' k f;omega
    ·exact I k f he) (λk he=>.inl (.inr he))
   refine aC (Bw Xj (by show p.ba≠[];rw [V3];simp)) ?_;rintro r X4 ⟨rfl,c4,fH,V2,V,WC⟩;have Yc:=V.size;have Wg:=V.aj W4 We;refine ⟨rfl,tN (d:=⟨0,ap,p.words.length+E.2.length,l⟩) (sQ Wg) ⟨gg (vs:=bO.cells ⟨0,ap,p.words.length+E.2.length,l⟩) Wg (by simp [bO.cells]) (bO.single _),?_⟩⟩;intro Wy Wu;have W5:av Wy b1 (bO.cells ⟨0,ap,p.words.length+E.2.length,l⟩) iR:=by rw [Wu];have:=Wg.cr (o:=0) (i:=0) (vs:=bO.cells ⟨0,ap,p.words.length+E.2.length,l⟩);rw [pt (by simp [bO.cells])] at this;exact this
   have V7:ao (λk=>k=b1) X4 Wy:=by rw [Wu];exact h0 _ _ _ _ _
   clear Wu;have G:a0 Wy qv 1 ap (p.words.length+E.2.length) l (us (p.words++E.2)):=
    (((((B.az Wj C).az Wk C).az U I).az V C).az V7 I)
   have L:ao (λk=>k=b\/aL p.df k\/k=fr) w Wy:=
    ((Wm.trans U λk f e=>by omega).trans V λk _ e=>.inl e).trans V7 λk f e=>by omega
   refine tN (d:=⟨0,ap,p.words.length+E.2.length,l⟩) (sQ W5) ⟨rfl,⟨0,ap,p.words.length+E.2.length,l⟩,dG.done { p with bF:=p.bF+1,words:=p.words++E.2,df:=ap,eN:=l } c4 fH,?_,?_,?_,?_,?_,?_,L,.inr ?_,.inr ?_,?_⟩
   ·rw [q];rfl
   ·rw [q];rfl
   ·rw [q];refine ((WA.az U (λe=>by omega) (λe=>by omega)).az V (λe=>?_) (λe=>Q e.symm)).az V7 (λe=>by omega) (λe=>by omega);have:=av.i_ X.node (e▸h.aj);revert this;decide
   ·rw [q];intro y WV;simp only [fe] at WV;subst WV;refine ⟨rfl,by simp [dG.pure],G.rd,?_,?_,G.le,rfl⟩
    ·intro R;rcases G.2 with ⟨_,Xx,_⟩ | ⟨g,cur,Xx,_⟩
     ·exact fI (by simpa [dG.pure] using Xx)
     ·rw [show ap=none from R] at Xx;cases Xx
    ·intro u hu;rcases jT.1 hu with hu | hu
     ·exact h.s4 u hu
     ·exact Wh u hu
   ·intro k f;rcases V4 with Wb | Wb
    ·exact .inl (Wb▸f)
    ·have:=Wb k f;exact .inr (by omega)
   ·intro M' Y N;have WP:=V2 (λk=>M' k\/k=b1) (λk f=>?_) (λk f=>.inl (N k f))
    ·refine (WP.az V7 (λk f he=>?_) (λk he=>.inr he)).mF (λk _ f=>.inl f) N;rcases f with f | f | ⟨o,A⟩
     ·omega
     ·have:=WC k f;omega
     ·cases A
    ·rcases f with f | f
     ·rcases Y k f with Z | Z | ⟨o,A⟩
      ·exact .inl ⟨by omega,.inl (.inl Z)⟩
      ·exact .inr Z
      ·cases A
     ·exact .inl ⟨by omega,.inl (.inr f)⟩
   ·intro k f;have:=WC k f;omega
   ·rintro k ⟨o,A⟩;cases A
   ·intro k f;exact fM G f
end
section
structure cS where
 pair:dg
 bR:cP
structure bU where
 alive:Bool
 inc:Int
 aD:List cS
 batch:Option (List aO)
 waiting:Nat
 kI:Int
 nB:Int
structure aN where
 lines:Nat
 nodes:List aZ
 aV:List bU
 bP:List dg
structure fo where
 ez:Int
 a1:Int
 node:Int
def aN.dm (F:aN) (c:Int):Option bU:=if c<0 then none else F.aV[c.toNat]?
def aN.nd (F:aN) (i:Int):Option aZ:=if i<0 then none else F.nodes[i.toNat]?
def bU.gu (C:bU) (k:Nat) (v:aW):bU:=
 {C with aD:=C.aD.modify v.node.toNat λl=>⟨{ l.pair with ba:=l.pair.ba++[v] },l.bR++[k]⟩ }
def bU.gO (C:bU) (k:Nat):List aW->bU
 | []=>C
 |v::vs=>(C.gu k v).gO (k+1) vs
def jF (nodes lines:Int):List aW->Int
 | []=>0
 |v::vs=>if v.v.valid nodes lines≠0 then v.v.valid nodes lines else jF nodes lines vs
def bU.kD (C:bU) (vs:List aW):bU:=
 {(C.gO 0 vs) with batch:=some (List.replicate vs.length ⟨0,[]⟩),waiting:=vs.length,kI:=IntKind.i64.wrap (C.kI+1),nB:=IntKind.i64.wrap (C.nB+vs.length) }
def aN.fs (F:aN) (c:Int) (C:bU):aN:={ F with aV:=F.aV.set c.toNat C }
def aN.post (F:aN) (c:Int) (vs:List aW):Int×aN:=
 match F.dm c with
 |none=>(1,F)
 |some C=>
  if C.alive=false then (1,F) else if C.batch.isSome then (3,F) else if vs.length=0 then (1,F) else if vs.length>1024 then (18,F)
  else if jF F.nodes.length F.lines vs≠0 then (jF F.nodes.length F.lines vs,F)
  else (0,F.fs c (C.kD vs))
def aN.waiting (F:aN) (c:Int):Nat:=match F.dm c with
 |none=>0
 |some C=>C.waiting
def aN.alive (F:aN) (c:Int):Bool:=match F.dm c with
 |none=>false
 |some C=>C.alive
def aN.kI (F:aN) (c:Int):Int:=match F.dm c with
 |none=>0
 |some C=>C.kI
def aN.take (F:aN) (c:Int):Option (List aO)×aN:=
 match F.dm c with
 |none=>(none,F)
 |some C=>if C.alive=false then (none,F) else match C.batch with
  |none=>(none,F)
  |some ds=>if 0<C.waiting then (none,F) else (some ds,F.fs c { C with batch:=none })
def kV (i:Nat):Nat->List cS->List fo
 | _,[]=>[]
 |j,l::ls=>(if 0<l.pair.ba.length then [⟨-1,i,j⟩] else [])++kV i (j+1) ls
def j2:Nat->List bU->List fo
 | _,[]=>[]
 |i,c::cs=>kV i 0 c.aD++j2 (i+1) cs
def mh:Nat->List dg->List fo
 | _,[]=>[]
 |i,p::ch=>⟨i,p.a1,p.node⟩::mh (i+1) ch
def aN.dL (F:aN):List fo:=j2 0 F.aV++mh 0 F.bP
def aN.drop (F:aN) (i:Int):Bool×aN:=if i<0\/F.bP.length<=i.toNat then (false,F) else (true,{ F with bP:=F.bP.eraseIdx i.toNat })
def aN.iZ (F:aN) (i:Nat):Bool×aN:=
 match F.bP[i]? with
 |none=>(false,F)
 |some p=>match F.nodes[p.node.toNat]? with
  |none=>(false,F)
  |some n=>
   let r:=p.step n;let cJ:={ F with nodes:=F.nodes.set p.node.toNat r.2.1,bP:=if r.1.ba.length=0 then F.bP.eraseIdx i else F.bP.set i r.1 }
   (true,cJ)
def bU.comes (C:bU) (j:Nat) (l:cS) (p:dg):Option aO->bU
 |none=>{ C with aD:=C.aD.set j { l with pair:=p } }
 |some d=>{ C with aD:=C.aD.set j ⟨p,l.bR.tail⟩,batch:=C.batch.map λds=>ds.set (l.bR.headD 0) d,waiting:=C.waiting - 1 }
def aN.step (F:aN) (x:fo):Bool×aN:=
 if 0<=x.ez then F.iZ x.ez.toNat
 else if x.ez < -1 then (false,F)
 else match F.dm x.a1 with
  |none=>(false,F)
  |some C=>if x.node<0 then (false,F) else match C.aD[x.node.toNat]?,F.nodes[x.node.toNat]? with
   |some l,some n=>if l.pair.ba.length=0 then (false,F) else
    let r:=l.pair.step n
    (true,{ F with nodes:=F.nodes.set x.node.toNat r.2.1,aV:=F.aV.set x.a1.toNat (C.comes x.node.toNat l r.1 r.2.2) })
   | _,_=>(false,F)
def aN.die (F:aN) (c:Int):Bool×aN:=
 match F.dm c with
 |none=>(false,F)
 |some C=>if C.alive=false then (false,F) else
  (true,{ F with bP:=F.bP++(C.aD.map cS.pair).filter (λp=>decide (0<p.ba.length)),aV:=F.aV.set c.toNat { C with alive:=false,aD:=[],batch:=none,waiting:=0 } })
structure zk (i:Nat) (inc:Int) (j:Nat) (len:Nat) (l:cS):Prop where
 a1:l.pair.a1=i
 inc:l.pair.inc=inc
 node:l.pair.node=j
 bR:l.bR.length=l.pair.ba.length
 low:∀ k ∈ l.bR,k<len
 hO:l.pair.hO
def g2 (ls:List cS):Nat:=(ls.map λl=>l.pair.ba.length).sum
structure tq (n:Nat) (i:Nat) (C:bU):Prop where
 inc:0<=C.inc/\C.inc<=59
 aD:C.aD.length=if C.alive then n else 0
 lane:∀ (j:Nat) (l:cS),C.aD[j]?=some l->zk i C.inc j (C.batch.getD []).length l
 waiting:C.waiting=g2 C.aD
 batch:C.waiting<=(C.batch.getD []).length/\(C.batch.getD []).length<=1024
 full:∀ ds,C.batch=some ds->0<ds.length
structure nR (F:aN):Prop where
 lines:1<=F.lines/\F.lines<=256
 nodes:1<=F.nodes.length/\F.nodes.length<=5
 words:∀ n ∈ F.nodes,n.words.length=F.lines * 8
 aV:1<=F.aV.length/\F.aV.length<=6
 a1:∀ (i:Nat) (C:bU),F.aV[i]?=some C->tq F.nodes.length i C
 ez:∀ p ∈ F.bP,0<=p.node/\p.node<F.nodes.length/\p.hO
inductive Tag where
 |cu
 |cd
 |nodes
 |node (i:Nat)
 |word (i:Nat)
 |aV
 |aD (c:Nat)
 |lane (c n:Nat)
 |bR (c n:Nat)
 |batch (c:Nat)
 |fZ
 |hL (b:Nat)
def iF (c:Nat):Tag->Prop
 | .aD i=>i=c
 | .lane i _=>i=c
 | .bR i _=>i=c
 | .batch i=>i=c
 | _=>False
structure dn where
 pb:Nat
 p:dG
 bR:cP
 kB:an
 k8:Nat
def dn.pure (l:dn):cS:=⟨l.p.pure,l.bR⟩
def dn.cells (l:dn):ax:=[.pointer (some ⟨l.pb,0,none⟩),.slice l.kB l.bR.length l.k8]
structure ck where
 alive:Bool
 inc:Int
 aD:List dn
 la:an
 lc:Nat
 dk:Option Nat
 raw:List bO
 batch:List aO
 waiting:Nat
 kI:Int
 nB:Int
def ck.pure (c:ck):bU:=⟨c.alive,c.inc,c.aD.map dn.pure,c.dk.map λ_=>c.batch,c.waiting,c.kI,c.nB⟩
def ck.cells (c:ck):ax:=[.bool c.alive,.int .i64 c.inc,.slice c.la c.aD.length c.lc,.slice (c.dk.map λb=>⟨b,0,none⟩) c.raw.length c.raw.length,.int .i64 c.waiting,.int .i64 c.kI,.int .i64 c.nB]
structure g' where
 b:Nat
 aJ:Nat
 n:aZ
structure bL where
 lines:Nat
 nodes:List g'
 na:an
 nc:Nat
 aX:Nat
 aV:List ck
 bP:List (Nat×dG)
 dy:an
 gL:Nat
def bL.pure (X:bL):aN:=⟨X.lines,X.nodes.map g'.n,X.aV.map ck.pure,X.bP.map λp=>p.2.pure⟩
def bL.cells (X:bL):ax:=[.int .i64 X.lines,.slice X.na X.nodes.length X.nc,.slice (some ⟨X.aX,0,none⟩) X.aV.length X.aV.length,.slice X.dy X.bP.length X.gL]
def ptr (b:Nat):a2:=.pointer (some ⟨b,0,none⟩)
def g1 (ls:List dn):List ax:=ls.map dn.cells
def fC (cs:List ck):List ax:=cs.map ck.cells
abbrev lD:TypeId:=110
abbrev jY:TypeId:=102
abbrev lE:TypeId:=105
abbrev zN:TypeId:=92
abbrev oh:TypeId:=103
abbrev l7:TypeId:=3
structure tr (A:a3) (aw:Nat->Tag) (w:ak) (i j:Nat) (l:dn):Prop where
 pair:dK A w l.pb l.p
 tag:∀ k,l.p.mut l.pb k->aw k=.lane i j
 bR:a0 w l7 1 l.kB l.bR.length l.k8 (is (l.bR.map Int.ofNat))
 sw:∀ k,aL l.kB k->aw k=.bR i j
def gW (A:a3) (w:ak) (raw:List bO) (xs:List aO):Prop:=raw.length=xs.length/\∀ (i:Nat) (v:bO) (x:aO),raw[i]?=some v->xs[i]?=some x->lf A w v x
structure kC (A:a3) (aw:Nat->Tag) (w:ak) (i:Nat) (c:ck):Prop where
 own:a0 w lE 2 c.la c.aD.length c.lc (g1 c.aD).flatten
 tag:∀ k,aL c.la k->aw k=.aD i
 lane:∀ (j:Nat) (l:dn),c.aD[j]?=some l->tr A aw w i j l
 none:c.dk=none->c.raw=[]/\c.batch=[]
 batch:∀ b,c.dk=some b->av w b (fP c.raw).flatten iR/\aw b=.batch i
 ds:gW A w c.raw c.batch
structure vE (aw:Nat->Tag) (w:ak) (i:Nat) (x:g'):Prop where
 node:dZ w x.b x.aJ x.n
 tag:aw x.b=.node i
 jQ:aw x.aJ=.word i
structure b2 (A:a3) (aw:Nat->Tag) (w:ak) (aI:Nat) (X:bL):Prop where
 e9:∀ k,aw k≠.cu->A k
 low:∀ k,A k->k<w.heap.size
 cd:av w aI X.cells lD
 gH:aw aI=.cd
 nodes:a0 w zN 1 X.na X.nodes.length X.nc (X.nodes.map λx=>ptr x.b)
 jJ:∀ k,aL X.na k->aw k=.nodes
 node:∀ (i:Nat) (x:g'),X.nodes[i]?=some x->vE aw w i x
 cls:av w X.aX (fC X.aV).flatten jY
 fg:aw X.aX=.aV
 a1:∀ (i:Nat) (c:ck),X.aV[i]?=some c->kC A aw w i c
 fZ:a0 w oh 1 X.dy X.bP.length X.gL (X.bP.map λp=>ptr p.1)
 j_:∀ k,aL X.dy k->aw k=.fZ
 ez:∀ p ∈ X.bP,dK A w p.1 p.2/\∀ k,p.2.mut p.1 k->aw k=.hL p.1
 nodup:(X.bP.map Prod.fst).Nodup
structure ll (T:Tag->Prop) (A A':a3) (aw χ':Nat->Tag) (w w':ak):Prop where
 az:ao (λk=>T (aw k)) w w'
 cu:¬ T .cu
 e9:∀ k,aw k≠.cu->A k
 old:∀ k,k<w.heap.size->A' k->A k
 same:∀ k,k<w.heap.size->¬ T (aw k)->aw k≠.cu->χ' k=aw k
 ma:∀ k,χ' k≠.cu->A' k
theorem ll.sm {T:Tag->Prop} {aw χ':Nat->Tag} (m:ll T A A' aw χ' w w'):ao A w w':=m.az.mono λk _ h=>m.e9 k λe=>m.cu (by rw [e] at h;exact h)
theorem dK.cM {T:Tag->Prop} {aw χ':Nat->Tag} (m:ll T A A' aw χ' w w') {b:Nat} {p:dG} {t:Tag} (h:dK A w b p) (d:∀ k,p.mut b k->aw k=t) (i:¬ T t) (l:t≠.cu):dK A' w' b p/\∀ k,p.mut b k->χ' k=t:=by
 have g:∀ k,p.mut b k->k<w.heap.size:=by
  rintro k (rfl | a | a)
  ·exact h.aj.lt
  ·exact h.own.lt a
  ·exact h.kg.lt a
 have c:∀ k,p.mut b k->χ' k=t:=λk a=>by rw [m.same k (g k a) (by rw [d k a];exact i) (by rw [d k a];exact l),d k a]
 refine ⟨?_,c⟩;have f:=h.az m.az (λk a j=>i (by rw [d k a] at j;exact j)) (λk a=>m.e9 k λe=>m.cu (by rw [e] at a;exact a));refine ⟨f.aj,f.own,f.kg,h.vs.az m.sm λk a n=>m.old k a n,h.a1,h.inc,h.node,h.len,h.kN,h.mO,h.ex,h.s4,λk a=>m.ma k (by rw [c k a];exact l)⟩
theorem a0.cM {T:Tag->Prop} {aw χ':Nat->Tag} (m:ll T A A' aw χ' w w') {e sz n cap:Nat} {xs:ax} {t:Tag} (h:a0 w e sz a n cap xs) (c:∀ k,aL a k->aw k=t) (d:¬ T t) (g:t≠.cu):a0 w' e sz a n cap xs/\∀ k,aL a k->χ' k=t:=
 ⟨h.az m.az λk b f=>d (by rw [c k b] at f;exact f),λk b=>by rw [m.same k (h.lt b) (by rw [c k b];exact d) (by rw [c k b];exact g),c k b]⟩
theorem av.cM {T:Tag->Prop} {aw χ':Nat->Tag} (m:ll T A A' aw χ' w w') {b:Nat} {cs:ax} {ty:TypeId} {t:Tag} (h:av w b cs ty) (a:aw b=t) (c:¬ T t) (e:t≠.cu):av w' b cs ty/\χ' b=t:=
 ⟨m.az.aj h λd=>c (by rw [a] at d;exact d),by rw [m.same b h.lt (by rw [a];exact c) (by rw [a];exact e),a]⟩
theorem gW.az {A A':a3} {w w':ak} {raw:List bO} {xs:List aO} (h:gW A w raw xs) (b:ao A w w') (a:∀ k,k<w.heap.size->A' k->A k):gW A' w' raw xs:=
 ⟨h.1,λi v x al c=>(h.2 i v x al c).az b a⟩
theorem tr.cM {T:Tag->Prop} {A A':a3} {aw χ':Nat->Tag} {w w':ak} (m:ll T A A' aw χ' w w') {i j:Nat} {l:dn} (h:tr A aw w i j l) (d:¬ T (.lane i j)) (e:¬ T (.bR i j)):tr A' χ' w' i j l:=by obtain ⟨a,b0⟩:=dK.cM m h.pair h.tag d (by simp);obtain ⟨b,c⟩:=a0.cM m h.bR h.sw e (by simp);exact ⟨a,b0,b,c⟩
theorem kC.cM {T:Tag->Prop} {A A':a3} {aw χ':Nat->Tag} {w w':ak} (m:ll T A A' aw χ' w w') {i:Nat} {c:ck} (h:kC A aw w i c) (a:∀ t,iF i t->¬ T t):kC A' χ' w' i c:=by obtain ⟨e,b0⟩:=a0.cM m h.own h.tag (a _ rfl) (by simp);refine ⟨e,b0,λj l f=>(h.lane j l f).cM m (a _ rfl) (a _ rfl),h.none,λb d=>?_,h.ds.az m.sm m.old⟩;exact av.cM m (h.batch b d).1 (h.batch b d).2 (a _ rfl) (by simp)
theorem vE.cM {T:Tag->Prop} {A A':a3} {aw χ':Nat->Tag} {w w':ak} (m:ll T A A' aw χ' w w') {i:Nat} {x:g'} (h:vE aw w i x) (d:¬ T (.node i)) (e:¬ T (.word i)):vE χ' w' i x:=by obtain ⟨a,b0⟩:=av.cM m h.node.node h.tag d (by simp);obtain ⟨b,c⟩:=av.cM m h.node.words h.jQ e (by simp);exact ⟨⟨a,b,h.node.len,h.node.uB,h.node.wf⟩,b0,c⟩
def gp (A:a3) (aw χ':Nat->Tag) (w:ak) (k:Nat):Prop:=χ' k≠.cu\/(k<w.heap.size/\A k/\aw k=.cu)
structure Next (A A':a3) (aw χ':Nat->Tag) (w w':ak):Prop where
 az:ao (λk=>aw k≠.cu) w w'
 grow:∀ k,k<w.heap.size->χ' k≠.cu->aw k≠.cu
 iff:∀ k,A' k↔gp A aw χ' w k
theorem Next.refl {aw:Nat->Tag} (b:∀ k,aw k≠.cu->A k) (c:∀ k,A k->k<w.heap.size) (d:ai w w'):Next A A aw aw w w':=
 ⟨ao.b4 d,λ_ _ h=>h,λk=>⟨λh=>by
  by_cases a:aw k=.cu
  ·exact .inr ⟨c k h,h,a⟩
  ·exact .inl a,λh=>h.elim (b k) λh=>h.2.1⟩⟩
theorem Next.trans {A g j:a3} {aw f o:Nat->Tag} {w w1 n:ak} (h:Next A g aw f w w1) (d:Next g j f o w1 n):Next A j aw o w n:=by
 refine ⟨h.az.trans d.az λi s a=>h.grow i s a,λk l a=>h.grow k l (d.grow k (f8 l h.az.size) a),λk=>?_⟩
 rw [d.iff k];constructor
 ·rintro (a | ⟨b,e,c⟩)
  ·exact .inl a
  ·rcases (h.iff k).1 e with a | ⟨p,q,r⟩
   ·exact absurd c a
   ·exact .inr ⟨p,q,r⟩
 ·rintro (a | ⟨b,e,c⟩)
  ·exact .inl a
  ·refine .inr ⟨f8 b h.az.size,(h.iff k).2 (.inr ⟨b,e,c⟩),?_⟩;by_cases a:f k=.cu
   ·exact a
   ·exact absurd c (h.grow k b a)
theorem Next.new {A a:a3} {aw c:Nat->Tag} {w w1 b:ak} (h:Next A a aw c w w1) (d:ai w1 b):Next A a aw c w b:=⟨h.az.new d,h.grow,h.iff⟩
theorem b2.move {T:Tag->Prop} {aw χ':Nat->Tag} {X:bL} (h:b2 A aw w aI X) (f:ao (λk=>T (aw k)) w w') (d:¬ T .cu)
  (c:∀ k,k<w.heap.size->χ' k≠.cu->aw k≠.cu) (j:∀ k,k<w.heap.size->¬ T (aw k)->aw k≠.cu->χ' k=aw k):ll T A (gp A aw χ' w) aw χ' w w'/\Next A (gp A aw χ' w) aw χ' w w':=by
 refine ⟨⟨f,d,h.e9,λk b a=>?_,j,λk i=>.inl i⟩,⟨f.mono λk _ g e=>d (by rw [e] at g;exact g),c,λk=>Iff.rfl⟩⟩
 rcases a with a | a
 ·exact h.e9 k (c k b a)
 ·exact a.2.1
theorem b2.new {A:a3} {aw:Nat->Tag} {w w':ak} {aI:Nat} {X:bL} (h:b2 A aw w aI X) (a:ai w w'):b2 A aw w' aI X:=by
 have m:ll (λ_=>False) A A aw aw w w':=⟨a,id,h.e9,λ_ _ h=>h,λ_ _ _ _=>rfl,h.e9⟩;refine ⟨h.e9,λk b=>f8 (h.low k b) a.size,ai.aj a h.cd,h.gH,h.nodes.new a,h.jJ,λi x e=>(h.node i x e).cM m id id,ai.aj a h.cls,h.fg,
  λi c b=>(h.a1 i c b).cM m λ_ _=>id,h.fZ.new a,h.j_,λp d=>⟨(h.ez p d).1.new a,(h.ez p d).2⟩,h.nodup⟩
theorem b2.mF {aw:Nat->Tag} {X:bL} (h:b2 A aw w aI X) (d:∀ k,A' k->A k) (e:∀ k,aw k≠.cu->A' k):b2 A' aw w aI X:=by
 have m:ll (λ_=>False) A A' aw aw w w:=⟨ao.refl _ _,id,h.e9,λk _=>d k,λ_ _ _ _=>rfl,e⟩;refine ⟨e,λk a=>h.low k (d k a),h.cd,h.gH,h.nodes,h.jJ,h.node,h.cls,h.fg,
  λi c a=>(h.a1 i c a).cM m λ_ _=>id,h.fZ,h.j_,λp b=>⟨(dK.cM m (h.ez p b).1 (h.ez p b).2 id (by simp)).1,(h.ez p b).2⟩,h.nodup⟩
theorem b2.other {S:a3} {aw:Nat->Tag} {X:bL} (h:b2 A aw w aI X) (f:ao S w w') (y:∀ k,S k->A k/\aw k=.cu):b2 A aw w' aI X:=by
 have q:∀ {b:Nat} {cs:ax} {T:TypeId} {t:Tag},av w b cs T->aw b=t->t≠.cu->av w' b cs T:=λq B z=>f.aj q λd=>z (by rw [<-B];exact (y _ d).2)
 have u:∀ {e sz n cap:Nat} {a:an} {xs:ax} {t:Tag},a0 w e sz a n cap xs->(∀ k,aL a k->aw k=t)->t≠.cu->a0 w' e sz a n cap xs:=λu B z=>u.az f λk f d=>z (by rw [<-B k f];exact (y _ d).2)
 have C:∀ {b:Nat} {p:dG} {t:Tag},dK A w b p->(∀ k,p.mut b k->aw k=t)->t≠.cu->dK A w' b p:=λC B z=>C.az f (λk f d=>z (by rw [<-B k f];exact (y _ d).2)) (λk d=>(y k d).1)
 have D:ao A w w':=f.mono λk _ d=>(y k d).1
 refine ⟨h.e9,λk d=>f8 (h.low k d) f.size,q h.cd h.gH (by simp),h.gH,u h.nodes h.jJ (by simp),h.jJ,λi x E=>?_,q h.cls h.fg (by simp),h.fg,λi c d=>?_,
  u h.fZ h.j_ (by simp),h.j_,λp s=>⟨C (h.ez p s).1 (h.ez p s).2 (by simp),(h.ez p s).2⟩,h.nodup⟩
 ·have g:=h.node i x E;exact ⟨⟨q g.node.node g.tag (by simp),q g.node.words g.jQ (by simp),g.node.len,g.node.uB,g.node.wf⟩,g.tag,g.jQ⟩
 ·have d:=h.a1 i c d;refine ⟨u d.own d.tag (by simp),d.tag,λj l o=>?_,d.none,λb r=>⟨q (d.batch b r).1 (d.batch b r).2 (by simp),(d.batch b r).2⟩,d.ds.az D λ_ _ h=>h⟩;have o:=d.lane j l o;exact ⟨C o.pair o.tag (by simp),o.tag,u o.bR o.sw (by simp),o.sw⟩
theorem nu (ls:List dn):∀ r ∈ g1 ls,r.length=2:=by intro r a;simp only [g1,cT] at a;obtain ⟨l,_,rfl⟩:=a;rfl
theorem AX (cs:List ck):∀ r ∈ fC cs,r.length=7:=by intro r a;simp only [fC,cT] at a;obtain ⟨l,_,rfl⟩:=a;rfl
theorem ml {ls:List dn} {l:dn} (h:ls[i]?=some l):(g1 ls)[i]?=some l.cells:=by simp [g1,h]
theorem uU {cs:List ck} {c:ck} (h:cs[i]?=some c):(fC cs)[i]?=some c.cells:=by simp [fC,h]
theorem sC (cs:List ck) (i:Nat) (c:ck):(fC cs).set i c.cells=fC (cs.set i c):=by simp [fC]
theorem J9 (ls:List dn) (i:Nat) (l:dn):(g1 ls).set i l.cells=g1 (ls.set i l):=by simp [g1]
theorem J_ (ds:List bO) (i:Nat) (d:bO):(fP ds).set i d.cells=fP (ds.set i d):=by simp [fP]
theorem b2.ih {aw:Nat->Tag} {X:bL} (h:b2 A aw w aI X) {k:Nat} {c:ck} (a:X.aV[i]?=some c) (al:c.cells[k]?=some v):w.cell? ⟨X.aX,0+i * 7+k,none⟩=some v:=by rw [g6];exact h.cls.cell (yb (AX _) (uU a) al)
theorem bL.r' (X:bL) (c:Int):(X.pure.dm c=none/\(c<0\/(X.aV.length:Int)<=c))\/∃ i x,c=(i:Nat)/\X.aV[i]?=some x/\X.pure.dm c=some x.pure:=by
 unfold aN.dm;by_cases b:c<0
 ·exact .inl ⟨by rw [if_pos b],.inl b⟩
 ·rw [if_neg b];cases a:X.aV[c.toNat]? with
  |none=>exact .inl ⟨by simp [bL.pure,a],.inr (by have:=List.getElem?_eq_none_iff.1 a;omega)⟩
  |some x=>exact .inr ⟨c.toNat,x,by omega,a,by simp [bL.pure,a]⟩
theorem uF {aw:Nat->Tag} {X:bL} (h:b2 A aw w aI X) {c:Int} (d:c<0\/(X.aV.length:Int)<=c) :
  a9 44 [ptr aI,.int .i64 c] w λv w'=>v=.pointer none/\w'=w:=by
 refine bc Tryz.func44 ?_;rw [ptr,FN];refine a8 (λ_=>⟨rfl,rfl⟩) (λa=>?_)
 exact ⟨_,_,_,h.cd.cell rfl,a8 (λ_=>⟨rfl,rfl⟩) (λb=>by omega)⟩
theorem sr {aw:Nat->Tag} {X:bL} (h:b2 A aw w aI X) {x:ck} (a:X.aV[i]?=some x) :
  a9 44 [ptr aI,.int .i64 i] w λv w'=>v=.pointer (some ⟨X.aX,0+i * 7,none⟩)/\w'=w:=by
 refine bc Tryz.func44 ?_;rw [ptr,FN];have:=cb a;refine a8 (λ_=>by omega) (λb=>⟨_,_,_,h.cd.cell rfl,a8 (λ_=>by omega) (λc=>⟨_,_,_,h.cd.cell rfl,ee (by omega) (by omega) ⟨rfl,rfl⟩⟩)⟩)
theorem DH {aw:Nat->Tag} {X:bL} (h:b2 A aw w aI X) (c:Int):a9 43 [ptr aI,.int .i64 c] w λv w'=>v=.bool (X.pure.alive c)/\w'=w:=by
 refine bc Tryz.func43 ?_;rw [ptr,Tn];unfold aN.alive;rcases X.r' c with ⟨a,b⟩ | ⟨i,x,rfl,a,b⟩
 ·refine aC (uF h b) ?_;rintro v w' ⟨rfl,rfl⟩;rw [a];exact ⟨_,rfl,rfl,rfl⟩
 ·refine aC (sr h a) ?_;rintro v w' ⟨rfl,rfl⟩;rw [b];exact ⟨_,rfl,⟨_,h.ih (k:=0) a rfl,rfl,rfl⟩⟩
theorem J' {aw:Nat->Tag} {X:bL} (h:b2 A aw w aI X) (c:Int):a9 63 [ptr aI,.int .i64 c] w λv w'=>v=.int .i64 (X.pure.waiting c)/\w'=w:=by
 refine bc Tryz.func63 ?_;rw [ptr,SW];unfold aN.waiting;rcases X.r' c with ⟨a,b⟩ | ⟨i,x,rfl,a,b⟩
 ·refine aC (uF h b) ?_;rintro v w' ⟨rfl,rfl⟩;rw [a];exact ⟨_,rfl,rfl,rfl⟩
 ·refine aC (sr h a) ?_;rintro v w' ⟨rfl,rfl⟩;rw [b];exact ⟨_,rfl,⟨_,h.ih (k:=4) a rfl,rfl,rfl⟩⟩
theorem yU {aw:Nat->Tag} {X:bL} (h:b2 A aw w aI X):a9 38 [ptr aI] w λv w'=>v=.int .i64 X.nodes.length/\w'=w:=by refine bc Tryz.func38 ?_;rw [ptr,Tm];exact ⟨_,_,_,h.cd.cell rfl,rfl,rfl⟩
theorem s0 {e cap:Nat} {ch:ax} {n:Nat} (h:a0 w e 1 a n cap ch) (al:ch[i]?=some v) {K:aS->Prop} {z:Int} (au:z=i) (f:∀ bx,w.cell? bx=some v->(∃ g,a=some ⟨g,0,none⟩/\bx=⟨g,0+i * 1,none⟩)->K bx):bm a n z 1 K:=by
 subst au;have o:=cb al;have k:=h.1;rcases h.2 with ⟨_,b,_⟩ | ⟨g,cur,rfl,c,hle,l,hlen,j⟩
 ·subst b;omega
 ·refine ee (by omega) (by omega) ?_;refine f _ ?_ ⟨g,rfl,by simp⟩;have d:cur[i]?=some v:=by
   rw [<-j] at al;rw [oV] at al;split at al
   ·exact al
   ·cases al
  have:=c.cell d;simpa using this
theorem AY {aw:Nat->Tag} {X:bL} (h:b2 A aw w aI X) {x:g'} (a:X.nodes[i]?=some x):a9 39 [ptr aI,.int .i64 i] w λv w'=>v=ptr x.b/\w'=w:=by refine bc Tryz.func39 ?_;rw [ptr,TW];have:=cb a;refine a8 (λ_=>by omega) (λd=>⟨_,_,_,h.cd.cell rfl,a8 (λ_=>by omega) (λe=>⟨_,_,_,h.cd.cell rfl,?_⟩)⟩);exact s0 (v:=ptr x.b) (i:=i) h.nodes (by simp [a]) rfl λbx c _=>⟨_,c,rfl,rfl⟩
theorem b2.setNode {aw:Nat->Tag} {X:bL} (h:b2 A aw w aI X) {x:g'} (g:X.nodes[i]?=some x) {n':aZ} (l:ao (λk=>k=x.b\/k=x.aJ) w w') (q:dZ w' x.b x.aJ n') :
  ∃ A',Next A A' aw aw w w'/\b2 A' aw w' aI { X with nodes:=X.nodes.set i { x with n:=n' } }:=by
 have d:=h.node i x g;obtain ⟨m,aP⟩:=h.move (χ':=aw) (T:=λt=>t=.node i\/t=.word i) (w':=w') (l.mono λk _ a=>a.elim (λe=>.inl (e▸d.tag)) (λe=>.inr (e▸d.jQ))) (by simp) (λ_ _ h=>h) (λ_ _ _ _=>rfl);refine ⟨_,aP,m.ma,λk a=>f8 (a.elim (λa=>h.low k (h.e9 k a)) (λa=>a.1)) l.size,?_,h.gH,?_,h.jJ,?_,(av.cM m h.cls h.fg (by simp) (by simp)).1,h.fg,λj c a=>(h.a1 j c a).cM m ?_,(a0.cM m h.fZ h.j_ (by simp) (by simp)).1,h.j_,λp o=>dK.cM m (h.ez p o).1 (h.ez p o).2 (by simp) (by simp),h.nodup⟩
 ·have:=(av.cM m h.cd h.gH (by simp) (by simp)).1;simpa [bL.cells] using this
 ·have:=(a0.cM m h.nodes h.jJ (by simp) (by simp)).1;have e:((X.nodes.set i { x with n:=n' }).map λx=>ptr x.b)=X.nodes.map λx=>ptr x.b:=by
   rw [iv];apply kj;intro k;rw [iu];split
   ·rename_i he;subst he;split
    ·simp [g]
    ·rename_i a;exact absurd (cb g) (by simpa using a)
   ·rfl
  rw [e];simpa using this
 ·intro j y f;simp only [iu] at f;split at f
  ·rename_i he;subst he;split at f
   ·simp only [fe] at f;subst f;exact ⟨q,d.tag,d.jQ⟩
   ·cases f
  ·rename_i he;exact (h.node j y f).cM m (by simp;exact λe=>he e.symm) (by simp;exact λe=>he e.symm)
 ·intro t r;cases t<;>simp [iF] at r ⊢
end
end Go.Proofs.YtmkljjbioomepaaGreat
