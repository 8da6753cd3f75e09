import Derived.Test.YtmkljjbioomepaaGreatd08
set_option linter.all false
set_option maxHeartbeats 4000000
set_option maxRecDepth 100000
namespace Go.Proofs.YtmkljjbioomepaaGreat
open Go.Proofs.Tryz Go.bs
variable {A A':a6} {a:an} {aJ i:Nat} {v:a4} {w w':ak}
section
theorem D_ {M:a6} {b fN fB:Nat} {p:dF} {n:aN} (h:dM M w b p) (X:ea w fN fB n) (Yd:M fB) (ZT:M fN) (YU:¬ aL p.c6 fB) (ZW:p.pure.hX) :
  bb 70 [.pointer (some ⟨b,0,none⟩),.pointer (some ⟨fN,0,none⟩)] w (yv M b fN fB p n w):=by
 refine bd Tryz.func70 ?_;rw [UT];rintro b1 w1 Y3 Yk;obtain ⟨Ya,X1⟩:=bl Y3 Yk;have Zj:w1.heap.size=w.heap.size+1:=by rw [Yk];simp
 clear Yk;have Yg:=h.new X1;have ZN:=X.new X1;have Y5:=h.aj.lt;have ZU:=X.node.lt;have ZB:=X.words.lt;have W:∀ k,aL p.c6 k->k<w.heap.size:=λk f=>h.ks.lt f
 have XE:∀ k,aL p.c4 k->k<w.heap.size:=λk f=>h.own.lt f
 refine ⟨_,_,_,Yg.aj.cell rfl,d' (λhe=>?_) (λhe=>?_)⟩
 ·have Zm:p.a3=[]:=fF (by omega);have q:p.pure.step n=(p.pure,n,none):=Lu Zm;refine ⟨gq (vs:=bT.cells ⟨0,none,0,0⟩) Ya (by simp [bT.cells]) (bT.single _),?_⟩;intro Z6 Zr;obtain ⟨Y8,Ye⟩:=oK (vs:=bT.cells ⟨0,none,0,0⟩) Ya (by simp [bT.cells]) X1 (by omega) Zr;refine tT (d:=⟨0,none,0,0⟩) (sX Y8) ⟨rfl,⟨0,none,0,0⟩,p,?_,?_,?_,?_,?_,?_,ao.b9 Ye,.inl rfl,.inl rfl,?_⟩
  ·rw [q];rfl
  ·rw [q]
  ·rw [q];exact X.new Ye
  ·rw [q];intro x Z0;cases Z0
  ·rintro k ⟨o,A⟩;cases A
  ·intro M' Y N;refine (h.new Ye).mO (λk _ f=>?_) N;rcases Y k f with f | f | f
   ·exact f.2
   ·exact h.iz k (.inr (.inl f))
   ·exact h.iz k (.inr (.inr f))
  ·rintro k ⟨o,A⟩;cases A
 obtain ⟨x,xs,Xw⟩:∃ x xs,p.a3=x::xs:=by
  cases Ze:p.a3 with
  |nil=>rw [Ze] at he;simp at he
  |cons x xs=>exact ⟨x,xs,rfl⟩
 obtain ⟨v,vs,YS⟩:∃ v vs,p.raw=v::vs:=by
  cases Ze:p.raw with
  |nil=>have:=h.vs.1;rw [Ze,Xw] at this;simp at this
  |cons v vs=>exact ⟨v,vs,rfl⟩
 have al:cL M w v x:=h.vs.2 0 v x (by rw [YS];rfl) (by rw [Xw];rfl);have q:=KO (p:=p.pure) (n:=n) Xw;refine ⟨_,_,_,Yg.aj.cell rfl,?_⟩;obtain ⟨Z4,dw,Zo,Y7,ZO⟩:=Yg.own.rd.row (u2 p.raw) (by omega) (i:=0) (r:=v.cells) (by rw [YS];rfl);rw [Zo];refine ej (by omega) (by omega) ?_;refine jl (v:=v) (by simpa using Y7) ?_;rintro aB Z1 Y4 Yl;obtain ⟨Yp,Zb⟩:=bl Y4 Yl;have Zk:Z1.heap.size=w.heap.size+2:=by rw [Yl];simp [Zj]
 clear Yl;refine ⟨gq (vs:=aG.cells v) Yp (by simp [aG.cells]) (aG.single v),?_⟩;intro ZJ Ym;have ZX:ZJ.heap.size=w.heap.size+2:=by rw [Ym,Bl,Zk]
 obtain ⟨YV,YM⟩:=oK (vs:=aG.cells v) Yp (by simp [aG.cells]) Zb (by omega) Ym;clear Ym Yp;have XC:Go.bs.ai w ZJ:=X1.new YM;have Y9:=ai.aj YM Ya;refine jl (v:=v) (hf YV) ?_;refine aD (KM (h.new XC) (X.new XC) (al.aA (ao.b9 XC) λ_ _ h=>h)) ?_;rintro r Zx ⟨rfl,X0⟩;have XT:=XC.new X0;have Yz:=ai.aj X0 Y9;have YW:=ai.aj X0 YV;have ZY:=X0.size;have XJ:b1≠b:=by omega
 have X8:∀ k,p.mut b k->k<w.heap.size:=λk f=>by
  rcases f with rfl | f | f
  ·exact Y5
  ·exact XE k f
  ·exact W k f
 have ZA:dM (λk=>(k<w.heap.size/\M k)\/k=b1) Zx b p:=by
  refine (h.mO (λk YK f=>?_) (λk f=>.inl ⟨X8 k f,h.iz k f⟩)).new XT;rcases f with f | f
  ·exact f.2
  ·omega
 have Zz:aB≠b:=by omega
 refine ⟨_,rfl,du (λZc=>?_) (λau=>?_)⟩
 ·
  rw [if_pos Zc] at q;refine aD (B2 ZA (by rw [Xw];simp)) ?_;rintro r Z2 ⟨rfl,c4,fP,Xv,YH,YD⟩;have YA:=YH.aj Yz XJ;refine ⟨rfl,gq (vs:=bT.cells ⟨p.pure.refusal x n,none,0,0⟩) YA (by simp [bT.cells]) (bT.single _),?_⟩;intro Zy Yn;have Y_:av Zy b1 (bT.cells ⟨p.pure.refusal x n,none,0,0⟩) jd:=by rw [Yn];have:=YA.cu (o:=0) (i:=0) (vs:=bT.cells ⟨p.pure.refusal x n,none,0,0⟩);rw [px (by simp [bT.cells])] at this;exact this
  have YI:ao (λk=>k=b1) Z2 Zy:=by rw [Yn];exact h7 _ _ _ _ _
  clear Yn;have L:ao (λk=>k=b) w Zy:=((ao.b9 XT).trans YH λ_ _ h=>h).trans YI λk f he=>by omega
  refine tT (d:=⟨p.pure.refusal x n,none,0,0⟩) (sX Y_) ⟨rfl,⟨p.pure.refusal x n,none,0,0⟩,p.done c4 fP,?_,?_,?_,?_,?_,?_,L.mono (λk _ e=>.inl e),.inr ?_,?_,?_⟩
  ·rw [q];rfl
  ·rw [q];rfl
  ·rw [q];refine X.aA L (λe=>?_) (λe=>?_)
   ·have:=av.jm X.node (e▸h.aj);revert this;decide
   ·have:=av.jm X.words (e▸h.aj);revert this;decide
  ·rw [q];intro y Yo;simp only [fg] at Yo;subst Yo;exact ⟨rfl,rfl,bk.nil _ _,λ_=>rfl,by simp,by simp,rfl⟩
  ·rintro k ⟨o,A⟩;cases A
  ·intro M' Y N;have Yi:=Xv (λk=>M' k\/k=b1) (λk f=>?_) (λk f=>.inl (N k f))
   ·refine (Yi.aA YI (λk f he=>?_) (λk he=>.inr he)).mO (λk _ f=>.inl f) N;rcases f with f | f | ⟨o,A⟩
    ·omega
    ·have:=YD k f;omega
    ·cases A
   ·rcases f with f | f
    ·rcases Y k f with Z | Z | ⟨o,A⟩
     ·exact .inl ⟨by omega,.inl Z⟩
     ·exact .inr Z
     ·cases A
    ·exact .inl ⟨by omega,.inr f⟩
  ·intro k f;have:=YD k f;omega
  ·right;rintro k ⟨o,A⟩;cases A
  ·rintro k ⟨o,A⟩;cases A
 ·
  rw [if_neg (λR=>R au)] at q;obtain ⟨Zl,Zq⟩:=IL au;obtain ⟨Yu,YG⟩:=x' Zq;have YF:=i0 YG;have Zd:=X.len;have Za:x.v.c9=(x.at_+x.v.count - 1) / 8:=rfl;have Yt:x.v.bZ=x.at_:=rfl;have YB:x.at_+x.v.count<=n.words.length:=by have XG:=YF.2.2.2.2.2.2.2.2.2.1;rw [Za] at XG;omega
  have YP:=ZW x xs Xw;have XV:x.v.pieces[p.bz]?=some (x.v.pieces.getD p.bz (0,0)):=by have:p.bz<x.v.pieces.length:=YP;simp [this]
  have Zh:x.v.pieces.length<=1024:=by have:=xP x.v.count.toNat x.v.bZ x.v.count;have Z5:=YF.2.2.2.2.2.2.2.2.1;show (hL _ _ _).length<=1024;omega
  have H:=AO x.v.count.toNat x.v.bZ x.v.count (by omega) _ (b5 XV);have Zf:p.pure.bz=p.bz:=rfl;rw [Zf] at q;generalize ZC:x.v.pieces.getD p.bz (0,0)=pc at XV H q;refine jl (v:=v) (hf YW) ?_;refine aD (Lo _ v (by rw [al.at_];omega) (by rw [al.at_];omega) (by rw [al.count];exact Yu) (by rw [al.count];omega)) ?_;rintro r Z3 ⟨a2,ZH,rfl,X',YJ,Zg⟩;rw [al.pieces] at X';refine ⟨_,_,_,rfl,?_⟩;intro Y0 YT;have Yc:Go.bs.ai Z3 Y0:=by rw [YT];exact cK _
  clear YT;have XD:=(XT.new YJ).new Yc;have XB:=YJ.new Yc;have ZZ:=XB.size;have Yh:=ZA.new XB;have Y2:=X.new XD;have Y':=ai.aj XB Yz;have Zt:=ai.aj XB YW;have Yj:=X'.new Yc;have Q:b≠fB:=by intro e;have:=av.jm X.words (e▸h.aj);revert this;decide
  have XK:¬ aL p.c6 b:=by intro R;obtain ⟨cs,D⟩:=fT h.ks R;have:=av.jm D h.aj;revert this;decide
  obtain ⟨Zv,ZI,YO,_,Zi⟩:=Yj.row (KG _) (by omega) (KH XV);have ZV:Zx.heap.size<=Zv:=by have:=Zg Zv (by rw [YO];exact ⟨ZI,rfl⟩);exact this
  have YQ:∀ u,ao (λk=>k=fB\/aL p.c6 k) Y0 u->cf u ⟨Zv,ZI+p.bz * 2,none⟩ 0 [.int .i64 pc.1,.int .i64 pc.2]:=by
   intro u hu;refine k8 λj bj ZS=>jQ hu ?_ ?_
   ·have:=Zi j bj ZS;simpa using this
   ·rintro (R | R)
    ·simp at R <;> omega
    ·have:=W _ R;simp at this <;> omega
  refine ⟨λu=>ao (λk=>k=fB\/aL p.c6 k) Y0 u,ao.refl _ _,_,_,_,λu hu=>(hu.aj Yh.aj (λR=>R.elim Q XK)).cell rfl,
   mQ (v:=v) (λu hu=>hf (hu.aj Zt (λR=>R.elim (λe=>by omega) (λe=>by have:=W _ e;omega)))) ⟨_,λu hu=>(hu.aj Yh.aj (λR=>R.elim Q XK)).cell rfl,?_⟩⟩
  rw [YO];have YC:p.bz<x.v.pieces.length:=YP;refine ej (by omega) (by rw [al.pieces];omega) ⟨pc.1,pc.2,λu hu=>by simpa using YQ u hu,?_⟩;have Zn:cL M Y0 v x:=al.aA (ao.b9 XD) λ_ _ h=>h
  have Yf:x.words=[]\/gA (λk=>k=fB) v.Words:=by
   rcases al.off with A | A
   ·exact .inl A
   ·refine .inr ?_;cases eJ:v.Words with
    |none=>trivial
    |some a=>rw [eJ] at A;intro R;exact A (by rw [R];exact Yd)
  refine aD (KN Y2 Zl Zn Yf (by rw [<-Yt];exact H.1) H.2.1 H.2.2.1 (by rw [<-Yt];exact H.2.2.2) (by omega) YB) ?_;rintro r YX ⟨ZL,Ys,rfl,X6,ZP,X4,S⟩;have XM:=ND X x pc;have Yb:=Lv (x:=x) (n:=n) H.2.2.1 H.2.1;generalize ay:exec x pc n=E at X6 X4 q XM Yb;have ZD:=S.size;refine ⟨_,_,_,rfl,S.mono (λk _ e=>.inl e),?_⟩;have XU:dM (λk=>(k<w.heap.size/\M k)\/k=b1) YX b p:=by
   refine Yh.aA S (λk f he=>?_) (λk he=>.inl ⟨by omega,by rw [he];exact Yd⟩);rcases f with f | f | f
   ·exact Q (f.symm.trans he)
   ·obtain ⟨cs,D⟩:=fT h.own f;have:=av.jm D (he▸X.words);revert this;decide
   ·exact YU (he▸f)
  have Zs:=h.kV;obtain ⟨inf,ZR,Zu,X2,Y6⟩:=fV (T:=qy) (z:=.int .u64 0) (n:=1) (m:=8) (by kernel_rfl);have X9:=XU.ks;rw [<-X2] at X9;obtain ⟨ap,l,Yq,YR,B,XN,XH⟩:=X9.append (P:=prog) (t:=94) (ty:=94) Tryz.underlying94 ZR Zu (by rw [X2];rfl) (by omega)
   (s:=ZL) (m:=E.2.length) (c:=Ys) (news:=us E.2) (by rw [X2,hO];omega) X6 (pC _) (by omega) (by rw [Y6];omega)
  rw [X2,Bn] at B;refine ⟨ap,p.words.length+E.2.length,l,Yq,YR,(S.mono (λk _ e=>.inl e)).trans XN (λk _ f=>.inr f),?_⟩;have O:av Yq b p.cells qw:=XN.aj XU.aj XK;refine ⟨⟨_,O.cell rfl⟩,O.frozen,?_⟩;intro Yr XW;have XO:ao (λk=>k=b) Yq Yr:=by rw [XW];exact eX _ _ _ _
  have Xy:av Yr b (p.cells.set 5 (.slice ap (p.words.length+E.2.length) l)) qw:=by rw [XW];exact O.setCell _
  clear XW;refine ⟨_,Xy.cell rfl,⟨_,Xy.cell rfl⟩,Xy.frozen,?_⟩;intro F XF;have XP:ao (λk=>k=b) Yr F:=by rw [XF];exact eX _ _ _ _
  have ZM:IntKind.i64.wrap ((p.bz:Int)+1)=((p.bz+1:Nat):Int):=by rw [bH (by omega) (by omega)];rfl
  rw [ZM] at XF;have XI:av F b ((p.cells.set 5 (.slice ap (p.words.length+E.2.length) l)).set 4 (.int .i64 (p.bz+1:Nat))) qw:=by rw [XF];exact Xy.setCell _
  clear XF;have Xx:ap=p.c6\/∀ k,aL ap k->Zx.heap.size<=k:=by
   rcases XH with XH | XH
   ·exact .inl XH
   ·refine .inr ?_;rintro k ⟨o,A⟩;rw [XH] at A;simp at A <;> omega
  have J:ao (λk=>k=b\/aL p.c6 k) YX F:=((XN.mono λk _ f=>.inr f).trans XO λk _ f=>.inl f).trans XP λk _ f=>.inl f
  have K:ao (λk=>k=b\/aL p.c6 k\/k=fB) Y0 F:=(S.mono λk _ f=>.inr (.inr f)).trans J λk _ f=>f.elim .inl λe=>.inr (.inl e)
  have X5:ea F fN fB E.1:=by
   refine X4.aA J ?_ ?_
   ·rintro (e | e)
    ·have:=av.jm X.node (e▸h.aj);revert this;decide
    ·obtain ⟨cs,D⟩:=fT h.ks e;have:=av.jm D X.node;revert this;decide
   ·rintro (e | e)
    ·exact Q e.symm
    ·exact YU e
  have Xz:av F b1 _ jd:=K.aj Y' (by rintro (e | e | e);exact XJ e;have:=W _ e;omega;omega);have X_:dM (λk=>((k<w.heap.size/\M k)\/k=b1)\/aL ap k) F b { p with bz:=p.bz+1,words:=p.words++E.2,c6:=ap,eg:=l }:=by
   have XS:∀ k,p.mut b k->k<w.heap.size/\M k:=λk f=>⟨X8 k f,h.iz k f⟩
   have Zp:∀ k,aL p.c4 k->¬ (k=b\/aL p.c6 k):=by
    rintro k f (e | e)
    ·obtain ⟨cs,D⟩:=fT h.own f;have:=av.jm D (e▸h.aj);revert this;decide
    ·obtain ⟨cs,D⟩:=fT h.own f;obtain ⟨ZK,Yv⟩:=fT h.ks e;have:=av.jm D Yv;revert this;decide
   have C:∀ k,aL ap k->k≠b:=by rintro k f e;obtain ⟨cs,D⟩:=fT B f;have:=av.jm D (e▸O);revert this;decide
   refine ⟨?_,XU.own.aA J Zp,?_,?_,h.aW,h.inc,h.node,h.len,?_,h.mX,?_,?_,?_⟩
   ·have e:dF.cells { p with bz:=p.bz+1,words:=p.words++E.2,c6:=ap,eg:=l }=(p.cells.set 5 (.slice ap (p.words.length+E.2.length) l)).set 4 (.int .i64 (p.bz+1:Nat)):=by simp only [dF.cells,dy];rfl
    rw [e];exact XI
   ·show a1 F qy 1 ap (p.words++E.2).length l (us (p.words++E.2));rw [dy];exact (B.aA XO C).aA XP C
   ·show et _ F p.raw p.a3;refine h.vs.aA ((ao.b9 XD).trans (M:=M) K ?_) ?_
    ·rintro k _ (e | e | e)
     ·exact h.iz k (.inl e)
     ·exact h.iz k (.inr (.inr e))
     ·rw [e];exact Yd
    ·rintro k YK ((f | f) | f)
     ·exact f.2
     ·omega
     ·rcases Xx with e | e
      ·exact h.iz k (.inr (.inr (e▸f)))
      ·have:=e k f;omega
   ·show (p.words++E.2).length<=8 * (p.bz+1);rw [dy];omega
   ·show match p.a3 with | []=>p.bz+1=0 | x::_=>p.bz+1<=x.v.pieces.length
    rw [Xw];exact YC
   ·intro u hu;rcases iq.1 hu with hu | hu
    ·exact h.s' u hu
    ·exact XM u hu
   ·rintro k (e | e | e)
    ·exact .inl (.inl (XS k (.inl e)))
    ·exact .inl (.inl (XS k (.inr (.inl e))))
    ·exact .inr e
  have ZE:=K.size;have I:∀ k,aL ap k->k≠b1:=by
   intro k f e;rcases Xx with XG | XG
   ·have:=W k (XG▸f);omega
   ·have:=XG k f;omega
  have C:∀ k,aL ap k->k≠b:=by rintro k f e;obtain ⟨cs,D⟩:=fT B f;have:=av.jm D (e▸O);revert this;decide
  have XR:ao (λk=>k=b\/aL p.c6 k\/k=fB) w F:=(ao.b9 XD).trans K λ_ _ h=>h
  refine ⟨_,XI.cell rfl,?_⟩;rw [al.pieces];refine bc (λYK=>?_) (λZQ=>?_)
  ·
   have YL:p.bz+1<x.v.pieces.length:=by omega
   rw [if_pos YL] at q;refine ⟨gq (vs:=bT.cells ⟨0,none,0,0⟩) Xz (by simp [bT.cells]) (bT.single _),?_⟩;intro YY XX;have Yw:av YY b1 (bT.cells ⟨0,none,0,0⟩) jd:=by rw [XX];have:=Xz.cu (o:=0) (i:=0) (vs:=bT.cells ⟨0,none,0,0⟩);rw [px (by simp [bT.cells])] at this;exact this
   have XQ:ao (λk=>k=b1) F YY:=by rw [XX];exact h7 _ _ _ _ _
   clear XX;refine tT (d:=⟨0,none,0,0⟩) (sX Yw) ⟨rfl,⟨0,none,0,0⟩,{ p with bz:=p.bz+1,words:=p.words++E.2,c6:=ap,eg:=l },?_,?_,?_,?_,?_,?_,?_,.inl rfl,?_,?_⟩
   ·rw [q];rfl
   ·rw [q];rfl
   ·rw [q];refine X5.aA XQ (λe=>?_) (λe=>?_)
    ·omega
    ·omega
   ·rw [q];intro y Yo;cases Yo
   ·rintro k ⟨o,A⟩;cases A
   ·intro M' Y N;refine (X_.aA XQ (λk f he=>?_) (λk he=>.inl (.inr he))).mO (λk _ f=>?_) N
    ·rcases f with f | f | f
     ·omega
     ·have:=XE k f;omega
     ·exact I k f he
    ·rcases Y k f with f | f | f
     ·exact .inl (.inl f)
     ·exact .inl (.inl ⟨XE k f,h.iz k (.inr (.inl f))⟩)
     ·exact .inr f
   ·exact XR.trans XQ λk f e=>by omega
   ·rcases Xx with XG | XG
    ·exact .inl XG
    ·exact .inr λk f=>by have:=XG k f;omega
   ·rintro k ⟨o,A⟩;cases A
  ·
   have YE:¬ p.bz+1<x.v.pieces.length:=by omega
   rw [if_neg YE] at q;refine ⟨_,_,_,XI.cell rfl,gq (vs:=bT.cells ⟨0,ap,p.words.length+E.2.length,l⟩) Xz (by simp [bT.cells]) (bT.single _),?_⟩;intro YZ XY;have Yx:av YZ b1 (bT.cells ⟨0,ap,p.words.length+E.2.length,l⟩) jd:=by rw [XY];have:=Xz.cu (o:=0) (i:=0) (vs:=bT.cells ⟨0,ap,p.words.length+E.2.length,l⟩);rw [px (by simp [bT.cells])] at this;exact this
   have U:ao (λk=>k=b1) F YZ:=by rw [XY];exact h7 _ _ _ _ _
   clear XY;have ZF:=U.size;have YN:=X_.aA U (λk f he=>by
    rcases f with f | f | f
    ·omega
    ·have:=XE k f;omega
    ·exact I k f he) (λk he=>.inl (.inr he))
   refine aD (B2 YN (by show p.a3≠[];rw [Xw];simp)) ?_;rintro r Zw ⟨rfl,c4,fP,Xv,V,X7⟩;have ZG:=V.size;have XL:=V.aj Yx XJ;refine ⟨rfl,tT (d:=⟨0,ap,p.words.length+E.2.length,l⟩) (sX XL) ⟨gq (vs:=bT.cells ⟨0,ap,p.words.length+E.2.length,l⟩) XL (by simp [bT.cells]) (bT.single _),?_⟩⟩;intro X3 XZ;have Yy:av X3 b1 (bT.cells ⟨0,ap,p.words.length+E.2.length,l⟩) jd:=by rw [XZ];have:=XL.cu (o:=0) (i:=0) (vs:=bT.cells ⟨0,ap,p.words.length+E.2.length,l⟩);rw [px (by simp [bT.cells])] at this;exact this
   have XA:ao (λk=>k=b1) Zw X3:=by rw [XZ];exact h7 _ _ _ _ _
   clear XZ;have G:a1 X3 qy 1 ap (p.words.length+E.2.length) l (us (p.words++E.2)):=
    (((((B.aA XO C).aA XP C).aA U I).aA V C).aA XA I)
   have L:ao (λk=>k=b\/aL p.c6 k\/k=fB) w X3:=
    ((XR.trans U λk f e=>by omega).trans V λk _ e=>.inl e).trans XA λk f e=>by omega
   refine tT (d:=⟨0,ap,p.words.length+E.2.length,l⟩) (sX Yy) ⟨rfl,⟨0,ap,p.words.length+E.2.length,l⟩,dF.done { p with bz:=p.bz+1,words:=p.words++E.2,c6:=ap,eg:=l } c4 fP,?_,?_,?_,?_,?_,?_,L,.inr ?_,.inr ?_,?_⟩
   ·rw [q];rfl
   ·rw [q];rfl
   ·rw [q];refine ((X5.aA U (λe=>by omega) (λe=>by omega)).aA V (λe=>?_) (λe=>Q e.symm)).aA XA (λe=>by omega) (λe=>by omega);have:=av.jm X.node (e▸h.aj);revert this;decide
   ·rw [q];intro y Yo;simp only [fg] at Yo;subst Yo;refine ⟨rfl,by simp [dF.pure],G.rd,?_,?_,G.le,rfl⟩
    ·intro R;rcases G.2 with ⟨_,Y1,_⟩ | ⟨g,cur,Y1,_⟩
     ·exact fF (by simpa [dF.pure] using Y1)
     ·rw [show ap=none from R] at Y1;cases Y1
    ·intro u hu;rcases iq.1 hu with hu | hu
     ·exact h.s' u hu
     ·exact XM u hu
   ·intro k f;rcases Xx with XG | XG
    ·exact .inl (XG▸f)
    ·have:=XG k f;exact .inr (by omega)
   ·intro M' Y N;have Yi:=Xv (λk=>M' k\/k=b1) (λk f=>?_) (λk f=>.inl (N k f))
    ·refine (Yi.aA XA (λk f he=>?_) (λk he=>.inr he)).mO (λk _ f=>.inl f) N;rcases f with f | f | ⟨o,A⟩
     ·omega
     ·have:=X7 k f;omega
     ·cases A
    ·rcases f with f | f
     ·rcases Y k f with Z | Z | ⟨o,A⟩
      ·exact .inl ⟨by omega,.inl (.inl Z)⟩
      ·exact .inr Z
      ·cases A
     ·exact .inl ⟨by omega,.inl (.inr f)⟩
   ·intro k f;have:=X7 k f;omega
   ·rintro k ⟨o,A⟩;cases A
   ·intro k f;exact fT G f
end
section
structure cA where
 pair:cR
 bC:cT
structure bh where
 alive:Bool
 inc:Int
 az:List cA
 batch:Option (List aM)
 waiting:Nat
 hJ:Int
 iS:Int
structure aE where
 lines:Nat
 nodes:List aN
 aR:List bh
 bU:List cR
structure fv where
 eC:Int
 aW:Int
 node:Int
def aE.cE (F:aE) (c:Int):Option bh:=if c<0 then none else F.aR[c.toNat]?
def aE.nd (F:aE) (i:Int):Option aN:=if i<0 then none else F.nodes[i.toNat]?
def bh.e5 (C:bh) (k:Nat) (v:aQ):bh:=
 {C with az:=C.az.modify v.node.toNat λl=>⟨{ l.pair with a3:=l.pair.a3++[v] },l.bC++[k]⟩ }
def bh.fc (C:bh) (k:Nat):List aQ->bh
 | []=>C
 |v::vs=>(C.e5 k v).fc (k+1) vs
def jS (nodes lines:Int):List aQ->Int
 | []=>0
 |v::vs=>if v.v.valid nodes lines≠0 then v.v.valid nodes lines else jS nodes lines vs
def bh.j0 (C:bh) (vs:List aQ):bh:=
 {(C.fc 0 vs) with batch:=some (List.replicate vs.length ⟨0,[]⟩),waiting:=vs.length,hJ:=IntKind.i64.wrap (C.hJ+1),iS:=IntKind.i64.wrap (C.iS+vs.length) }
def aE.dO (F:aE) (c:Int) (C:bh):aE:={ F with aR:=F.aR.set c.toNat C }
def aE.post (F:aE) (c:Int) (vs:List aQ):Int×aE:=
 match F.cE c with
 |none=>(1,F)
 |some C=>
  if C.alive=false then (1,F) else if C.batch.isSome then (3,F) else if vs.length=0 then (1,F) else if vs.length>1024 then (18,F)
  else if jS F.nodes.length F.lines vs≠0 then (jS F.nodes.length F.lines vs,F)
  else (0,F.dO c (C.j0 vs))
def aE.waiting (F:aE) (c:Int):Nat:=match F.cE c with
 |none=>0
 |some C=>C.waiting
def aE.alive (F:aE) (c:Int):Bool:=match F.cE c with
 |none=>false
 |some C=>C.alive
def aE.hJ (F:aE) (c:Int):Int:=match F.cE c with
 |none=>0
 |some C=>C.hJ
def aE.take (F:aE) (c:Int):Option (List aM)×aE:=
 match F.cE c with
 |none=>(none,F)
 |some C=>if C.alive=false then (none,F) else match C.batch with
  |none=>(none,F)
  |some ds=>if 0<C.waiting then (none,F) else (some ds,F.dO c { C with batch:=none })
def j' (i:Nat):Nat->List cA->List fv
 | _,[]=>[]
 |j,l::ls=>(if 0<l.pair.a3.length then [⟨-1,i,j⟩] else [])++j' i (j+1) ls
def jw:Nat->List bh->List fv
 | _,[]=>[]
 |i,c::cs=>j' i 0 c.az++jw (i+1) cs
def lW:Nat->List cR->List fv
 | _,[]=>[]
 |i,p::cl=>⟨i,p.aW,p.node⟩::lW (i+1) cl
def aE.dU (F:aE):List fv:=jw 0 F.aR++lW 0 F.bU
def aE.drop (F:aE) (i:Int):Bool×aE:=if i<0\/F.bU.length<=i.toNat then (false,F) else (true,{ F with bU:=F.bU.eraseIdx i.toNat })
def aE.iX (F:aE) (i:Nat):Bool×aE:=
 match F.bU[i]? with
 |none=>(false,F)
 |some p=>match F.nodes[p.node.toNat]? with
  |none=>(false,F)
  |some n=>
   let r:=p.step n;let cy:={ F with nodes:=F.nodes.set p.node.toNat r.2.1,bU:=if r.1.a3.length=0 then F.bU.eraseIdx i else F.bU.set i r.1 }
   (true,cy)
def bh.comes (C:bh) (j:Nat) (l:cA) (p:cR):Option aM->bh
 |none=>{ C with az:=C.az.set j { l with pair:=p } }
 |some d=>{ C with az:=C.az.set j ⟨p,l.bC.tail⟩,batch:=C.batch.map λds=>ds.set (l.bC.headD 0) d,waiting:=C.waiting - 1 }
def aE.step (F:aE) (x:fv):Bool×aE:=
 if 0<=x.eC then F.iX x.eC.toNat
 else if x.eC < -1 then (false,F)
 else match F.cE x.aW with
  |none=>(false,F)
  |some C=>if x.node<0 then (false,F) else match C.az[x.node.toNat]?,F.nodes[x.node.toNat]? with
   |some l,some n=>if l.pair.a3.length=0 then (false,F) else
    let r:=l.pair.step n
    (true,{ F with nodes:=F.nodes.set x.node.toNat r.2.1,aR:=F.aR.set x.aW.toNat (C.comes x.node.toNat l r.1 r.2.2) })
   | _,_=>(false,F)
def aE.die (F:aE) (c:Int):Bool×aE:=
 match F.cE c with
 |none=>(false,F)
 |some C=>if C.alive=false then (false,F) else
  (true,{ F with bU:=F.bU++(C.az.map cA.pair).filter (λp=>decide (0<p.a3.length)),aR:=F.aR.set c.toNat { C with alive:=false,az:=[],batch:=none,waiting:=0 } })
structure zD (i:Nat) (inc:Int) (j:Nat) (len:Nat) (l:cA):Prop where
 aW:l.pair.aW=i
 inc:l.pair.inc=inc
 node:l.pair.node=j
 bC:l.bC.length=l.pair.a3.length
 low:∀ k ∈ l.bC,k<len
 hX:l.pair.hX
def gz (ls:List cA):Nat:=(ls.map λl=>l.pair.a3.length).sum
structure tB (n:Nat) (i:Nat) (C:bh):Prop where
 inc:0<=C.inc/\C.inc<=59
 az:C.az.length=if C.alive then n else 0
 lane:∀ (j:Nat) (l:cA),C.az[j]?=some l->zD i C.inc j (C.batch.getD []).length l
 waiting:C.waiting=gz C.az
 batch:C.waiting<=(C.batch.getD []).length/\(C.batch.getD []).length<=1024
 full:∀ ds,C.batch=some ds->0<ds.length
structure n9 (F:aE):Prop where
 lines:1<=F.lines/\F.lines<=256
 nodes:1<=F.nodes.length/\F.nodes.length<=5
 words:∀ n ∈ F.nodes,n.words.length=F.lines * 8
 aR:1<=F.aR.length/\F.aR.length<=6
 aW:∀ (i:Nat) (C:bh),F.aR[i]?=some C->tB F.nodes.length i C
 eC:∀ p ∈ F.bU,0<=p.node/\p.node<F.nodes.length/\p.hX
inductive Tag where
 |cx
 |ck
 |nodes
 |node (i:Nat)
 |word (i:Nat)
 |aR
 |az (c:Nat)
 |lane (c n:Nat)
 |bC (c n:Nat)
 |batch (c:Nat)
 |gb
 |gX (b:Nat)
def iO (c:Nat):Tag->Prop
 | .az i=>i=c
 | .lane i _=>i=c
 | .bC i _=>i=c
 | .batch i=>i=c
 | _=>False
structure dk where
 pb:Nat
 p:dF
 bC:cT
 kN:an
 ln:Nat
def dk.pure (l:dk):cA:=⟨l.p.pure,l.bC⟩
def dk.cells (l:dk):ax:=[.pointer (some ⟨l.pb,0,none⟩),.slice l.kN l.bC.length l.ln]
structure cn where
 alive:Bool
 inc:Int
 az:List dk
 la:an
 lc:Nat
 dm:Option Nat
 raw:List bT
 batch:List aM
 waiting:Nat
 hJ:Int
 iS:Int
def cn.pure (c:cn):bh:=⟨c.alive,c.inc,c.az.map dk.pure,c.dm.map λ_=>c.batch,c.waiting,c.hJ,c.iS⟩
def cn.cells (c:cn):ax:=[.bool c.alive,.int .i64 c.inc,.slice c.la c.az.length c.lc,.slice (c.dm.map λb=>⟨b,0,none⟩) c.raw.length c.raw.length,.int .i64 c.waiting,.int .i64 c.hJ,.int .i64 c.iS]
structure hF where
 b:Nat
 aH:Nat
 n:aN
structure bR where
 lines:Nat
 nodes:List hF
 na:an
 nc:Nat
 aY:Nat
 aR:List cn
 bU:List (Nat×dF)
 dw:an
 gW:Nat
def bR.pure (X:bR):aE:=⟨X.lines,X.nodes.map hF.n,X.aR.map cn.pure,X.bU.map λp=>p.2.pure⟩
def bR.cells (X:bR):ax:=[.int .i64 X.lines,.slice X.na X.nodes.length X.nc,.slice (some ⟨X.aY,0,none⟩) X.aR.length X.aR.length,.slice X.dw X.bU.length X.gW]
def ptr (b:Nat):a4:=.pointer (some ⟨b,0,none⟩)
def hc (ls:List dk):List ax:=ls.map dk.cells
def fL (cs:List cn):List ax:=cs.map cn.cells
abbrev lO:TypeId:=110
abbrev j8:TypeId:=102
abbrev lP:TypeId:=105
abbrev z5:TypeId:=92
abbrev oo:TypeId:=103
abbrev mj:TypeId:=3
structure tC (A:a6) (aw:Nat->Tag) (w:ak) (i j:Nat) (l:dk):Prop where
 pair:dM A w l.pb l.p
 tag:∀ k,l.p.mut l.pb k->aw k=.lane i j
 bC:a1 w mj 1 l.kN l.bC.length l.ln (is (l.bC.map Int.ofNat))
 sG:∀ k,aL l.kN k->aw k=.bC i j
def g6 (A:a6) (w:ak) (raw:List bT) (xs:List aM):Prop:=raw.length=xs.length/\∀ (i:Nat) (v:bT) (x:aM),raw[i]?=some v->xs[i]?=some x->lu A w v x
structure pp (A:a6) (aw:Nat->Tag) (w:ak) (i:Nat) (c:cn):Prop where
 own:a1 w lP 2 c.la c.az.length c.lc (hc c.az).flatten
 tag:∀ k,aL c.la k->aw k=.az i
 lane:∀ (j:Nat) (l:dk),c.az[j]?=some l->tC A aw w i j l
 none:c.dm=none->c.raw=[]/\c.batch=[]
 batch:∀ b,c.dm=some b->av w b (fW c.raw).flatten jd/\aw b=.batch i
 ds:g6 A w c.raw c.batch
structure vX (aw:Nat->Tag) (w:ak) (i:Nat) (x:hF):Prop where
 node:ea w x.b x.aH x.n
 tag:aw x.b=.node i
 j5:aw x.aH=.word i
structure b6 (A:a6) (aw:Nat->Tag) (w:ak) (aJ:Nat) (X:bR):Prop where
 e9:∀ k,aw k≠.cx->A k
 low:∀ k,A k->k<w.heap.size
 ck:av w aJ X.cells lO
 gT:aw aJ=.ck
 nodes:a1 w z5 1 X.na X.nodes.length X.nc (X.nodes.map λx=>ptr x.b)
 jY:∀ k,aL X.na k->aw k=.nodes
 node:∀ (i:Nat) (x:hF),X.nodes[i]?=some x->vX aw w i x
 cls:av w X.aY (fL X.aR).flatten j8
 fk:aw X.aY=.aR
 aW:∀ (i:Nat) (c:cn),X.aR[i]?=some c->pp A aw w i c
 gb:a1 w oo 1 X.dw X.bU.length X.gW (X.bU.map λp=>ptr p.1)
 ki:∀ k,aL X.dw k->aw k=.gb
 eC:∀ p ∈ X.bU,dM A w p.1 p.2/\∀ k,p.2.mut p.1 k->aw k=.gX p.1
 nodup:(X.bU.map Prod.fst).Nodup
structure lA (T:Tag->Prop) (A A':a6) (aw χ':Nat->Tag) (w w':ak):Prop where
 aA:ao (λk=>T (aw k)) w w'
 cx:¬ T .cx
 e9:∀ k,aw k≠.cx->A k
 old:∀ k,k<w.heap.size->A' k->A k
 same:∀ k,k<w.heap.size->¬ T (aw k)->aw k≠.cx->χ' k=aw k
 mo:∀ k,χ' k≠.cx->A' k
theorem lA.sA {T:Tag->Prop} {aw χ':Nat->Tag} (m:lA T A A' aw χ' w w'):ao A w w':=m.aA.mono λk _ h=>m.e9 k λe=>m.cx (by rw [e] at h;exact h)
theorem dM.cU {T:Tag->Prop} {aw χ':Nat->Tag} (m:lA T A A' aw χ' w w') {b:Nat} {p:dF} {t:Tag} (h:dM A w b p) (d:∀ k,p.mut b k->aw k=t) (i:¬ T t) (l:t≠.cx):dM A' w' b p/\∀ k,p.mut b k->χ' k=t:=by
 have g:∀ k,p.mut b k->k<w.heap.size:=by
  rintro k (rfl | a | a)
  ·exact h.aj.lt
  ·exact h.own.lt a
  ·exact h.ks.lt a
 have c:∀ k,p.mut b k->χ' k=t:=λk a=>by rw [m.same k (g k a) (by rw [d k a];exact i) (by rw [d k a];exact l),d k a]
 refine ⟨?_,c⟩;have f:=h.aA m.aA (λk a j=>i (by rw [d k a] at j;exact j)) (λk a=>m.e9 k λe=>m.cx (by rw [e] at a;exact a));refine ⟨f.aj,f.own,f.ks,h.vs.aA m.sA λk a n=>m.old k a n,h.aW,h.inc,h.node,h.len,h.kV,h.mX,h.ex,h.s',λk a=>m.mo k (by rw [c k a];exact l)⟩
theorem a1.cU {T:Tag->Prop} {aw χ':Nat->Tag} (m:lA T A A' aw χ' w w') {e sz n cap:Nat} {xs:ax} {t:Tag} (h:a1 w e sz a n cap xs) (c:∀ k,aL a k->aw k=t) (d:¬ T t) (g:t≠.cx):a1 w' e sz a n cap xs/\∀ k,aL a k->χ' k=t:=
 ⟨h.aA m.aA λk b f=>d (by rw [c k b] at f;exact f),λk b=>by rw [m.same k (h.lt b) (by rw [c k b];exact d) (by rw [c k b];exact g),c k b]⟩
theorem av.cU {T:Tag->Prop} {aw χ':Nat->Tag} (m:lA T A A' aw χ' w w') {b:Nat} {cs:ax} {ty:TypeId} {t:Tag} (h:av w b cs ty) (a:aw b=t) (c:¬ T t) (e:t≠.cx):av w' b cs ty/\χ' b=t:=
 ⟨m.aA.aj h λd=>c (by rw [a] at d;exact d),by rw [m.same b h.lt (by rw [a];exact c) (by rw [a];exact e),a]⟩
theorem g6.aA {A A':a6} {w w':ak} {raw:List bT} {xs:List aM} (h:g6 A w raw xs) (b:ao A w w') (a:∀ k,k<w.heap.size->A' k->A k):g6 A' w' raw xs:=
 ⟨h.1,λi v x al c=>(h.2 i v x al c).aA b a⟩
theorem tC.cU {T:Tag->Prop} {A A':a6} {aw χ':Nat->Tag} {w w':ak} (m:lA T A A' aw χ' w w') {i j:Nat} {l:dk} (h:tC A aw w i j l) (d:¬ T (.lane i j)) (e:¬ T (.bC i j)):tC A' χ' w' i j l:=by obtain ⟨a,b2⟩:=dM.cU m h.pair h.tag d (by simp);obtain ⟨b,c⟩:=a1.cU m h.bC h.sG e (by simp);exact ⟨a,b2,b,c⟩
theorem pp.cU {T:Tag->Prop} {A A':a6} {aw χ':Nat->Tag} {w w':ak} (m:lA T A A' aw χ' w w') {i:Nat} {c:cn} (h:pp A aw w i c) (a:∀ t,iO i t->¬ T t):pp A' χ' w' i c:=by obtain ⟨e,b2⟩:=a1.cU m h.own h.tag (a _ rfl) (by simp);refine ⟨e,b2,λj l f=>(h.lane j l f).cU m (a _ rfl) (a _ rfl),h.none,λb d=>?_,h.ds.aA m.sA m.old⟩;exact av.cU m (h.batch b d).1 (h.batch b d).2 (a _ rfl) (by simp)
theorem vX.cU {T:Tag->Prop} {A A':a6} {aw χ':Nat->Tag} {w w':ak} (m:lA T A A' aw χ' w w') {i:Nat} {x:hF} (h:vX aw w i x) (d:¬ T (.node i)) (e:¬ T (.word i)):vX χ' w' i x:=by obtain ⟨a,b2⟩:=av.cU m h.node.node h.tag d (by simp);obtain ⟨b,c⟩:=av.cU m h.node.words h.j5 e (by simp);exact ⟨⟨a,b,h.node.len,h.node.uK,h.node.wf⟩,b2,c⟩
def gC (A:a6) (aw χ':Nat->Tag) (w:ak) (k:Nat):Prop:=χ' k≠.cx\/(k<w.heap.size/\A k/\aw k=.cx)
structure Next (A A':a6) (aw χ':Nat->Tag) (w w':ak):Prop where
 aA:ao (λk=>aw k≠.cx) w w'
 grow:∀ k,k<w.heap.size->χ' k≠.cx->aw k≠.cx
 iff:∀ k,A' k↔gC A aw χ' w k
theorem Next.refl {aw:Nat->Tag} (b:∀ k,aw k≠.cx->A k) (c:∀ k,A k->k<w.heap.size) (d:ai w w'):Next A A aw aw w w':=
 ⟨ao.b9 d,λ_ _ h=>h,λk=>⟨λh=>by
  by_cases a:aw k=.cx
  ·exact .inr ⟨c k h,h,a⟩
  ·exact .inl a,λh=>h.elim (b k) λh=>h.2.1⟩⟩
theorem Next.trans {A g j:a6} {aw f o:Nat->Tag} {w w1 n:ak} (h:Next A g aw f w w1) (d:Next g j f o w1 n):Next A j aw o w n:=by
 refine ⟨h.aA.trans d.aA λi s a=>h.grow i s a,λk l a=>h.grow k l (d.grow k (gi l h.aA.size) a),λk=>?_⟩
 rw [d.iff k];constructor
 ·rintro (a | ⟨b,e,c⟩)
  ·exact .inl a
  ·rcases (h.iff k).1 e with a | ⟨p,q,r⟩
   ·exact absurd c a
   ·exact .inr ⟨p,q,r⟩
 ·rintro (a | ⟨b,e,c⟩)
  ·exact .inl a
  ·refine .inr ⟨gi b h.aA.size,(h.iff k).2 (.inr ⟨b,e,c⟩),?_⟩;by_cases a:f k=.cx
   ·exact a
   ·exact absurd c (h.grow k b a)
theorem Next.new {A a:a6} {aw c:Nat->Tag} {w w1 b:ak} (h:Next A a aw c w w1) (d:ai w1 b):Next A a aw c w b:=⟨h.aA.new d,h.grow,h.iff⟩
theorem b6.move {T:Tag->Prop} {aw χ':Nat->Tag} {X:bR} (h:b6 A aw w aJ X) (f:ao (λk=>T (aw k)) w w') (d:¬ T .cx)
  (c:∀ k,k<w.heap.size->χ' k≠.cx->aw k≠.cx) (j:∀ k,k<w.heap.size->¬ T (aw k)->aw k≠.cx->χ' k=aw k):lA T A (gC A aw χ' w) aw χ' w w'/\Next A (gC A aw χ' w) aw χ' w w':=by
 refine ⟨⟨f,d,h.e9,λk b a=>?_,j,λk i=>.inl i⟩,⟨f.mono λk _ g e=>d (by rw [e] at g;exact g),c,λk=>Iff.rfl⟩⟩
 rcases a with a | a
 ·exact h.e9 k (c k b a)
 ·exact a.2.1
theorem b6.new {A:a6} {aw:Nat->Tag} {w w':ak} {aJ:Nat} {X:bR} (h:b6 A aw w aJ X) (a:ai w w'):b6 A aw w' aJ X:=by
 have m:lA (λ_=>False) A A aw aw w w':=⟨a,id,h.e9,λ_ _ h=>h,λ_ _ _ _=>rfl,h.e9⟩;refine ⟨h.e9,λk b=>gi (h.low k b) a.size,ai.aj a h.ck,h.gT,h.nodes.new a,h.jY,λi x e=>(h.node i x e).cU m id id,ai.aj a h.cls,h.fk,
  λi c b=>(h.aW i c b).cU m λ_ _=>id,h.gb.new a,h.ki,λp d=>⟨(h.eC p d).1.new a,(h.eC p d).2⟩,h.nodup⟩
theorem b6.mO {aw:Nat->Tag} {X:bR} (h:b6 A aw w aJ X) (d:∀ k,A' k->A k) (e:∀ k,aw k≠.cx->A' k):b6 A' aw w aJ X:=by
 have m:lA (λ_=>False) A A' aw aw w w:=⟨ao.refl _ _,id,h.e9,λk _=>d k,λ_ _ _ _=>rfl,e⟩;refine ⟨e,λk a=>h.low k (d k a),h.ck,h.gT,h.nodes,h.jY,h.node,h.cls,h.fk,
  λi c a=>(h.aW i c a).cU m λ_ _=>id,h.gb,h.ki,λp b=>⟨(dM.cU m (h.eC p b).1 (h.eC p b).2 id (by simp)).1,(h.eC p b).2⟩,h.nodup⟩
theorem b6.other {S:a6} {aw:Nat->Tag} {X:bR} (h:b6 A aw w aJ X) (f:ao S w w') (y:∀ k,S k->A k/\aw k=.cx):b6 A aw w' aJ X:=by
 have q:∀ {b:Nat} {cs:ax} {T:TypeId} {t:Tag},av w b cs T->aw b=t->t≠.cx->av w' b cs T:=λq B z=>f.aj q λd=>z (by rw [<-B];exact (y _ d).2)
 have u:∀ {e sz n cap:Nat} {a:an} {xs:ax} {t:Tag},a1 w e sz a n cap xs->(∀ k,aL a k->aw k=t)->t≠.cx->a1 w' e sz a n cap xs:=λu B z=>u.aA f λk f d=>z (by rw [<-B k f];exact (y _ d).2)
 have C:∀ {b:Nat} {p:dF} {t:Tag},dM A w b p->(∀ k,p.mut b k->aw k=t)->t≠.cx->dM A w' b p:=λC B z=>C.aA f (λk f d=>z (by rw [<-B k f];exact (y _ d).2)) (λk d=>(y k d).1)
 have D:ao A w w':=f.mono λk _ d=>(y k d).1
 refine ⟨h.e9,λk d=>gi (h.low k d) f.size,q h.ck h.gT (by simp),h.gT,u h.nodes h.jY (by simp),h.jY,λi x E=>?_,q h.cls h.fk (by simp),h.fk,λi c d=>?_,
  u h.gb h.ki (by simp),h.ki,λp s=>⟨C (h.eC p s).1 (h.eC p s).2 (by simp),(h.eC p s).2⟩,h.nodup⟩
 ·have g:=h.node i x E;exact ⟨⟨q g.node.node g.tag (by simp),q g.node.words g.j5 (by simp),g.node.len,g.node.uK,g.node.wf⟩,g.tag,g.j5⟩
 ·have d:=h.aW i c d;refine ⟨u d.own d.tag (by simp),d.tag,λj l o=>?_,d.none,λb r=>⟨q (d.batch b r).1 (d.batch b r).2 (by simp),(d.batch b r).2⟩,d.ds.aA D λ_ _ h=>h⟩;have o:=d.lane j l o;exact ⟨C o.pair o.tag (by simp),o.tag,u o.bC o.sG (by simp),o.sG⟩
theorem nH (ls:List dk):∀ r ∈ hc ls,r.length=2:=by intro r a;simp only [hc,cZ] at a;obtain ⟨l,_,rfl⟩:=a;rfl
theorem Bp (cs:List cn):∀ r ∈ fL cs,r.length=7:=by intro r a;simp only [fL,cZ] at a;obtain ⟨l,_,rfl⟩:=a;rfl
theorem mz {ls:List dk} {l:dk} (h:ls[i]?=some l):(hc ls)[i]?=some l.cells:=by simp [hc,h]
theorem u3 {cs:List cn} {c:cn} (h:cs[i]?=some c):(fL cs)[i]?=some c.cells:=by simp [fL,h]
theorem sK (cs:List cn) (i:Nat) (c:cn):(fL cs).set i c.cells=fL (cs.set i c):=by simp [fL]
theorem Km (ls:List dk) (i:Nat) (l:dk):(hc ls).set i l.cells=hc (ls.set i l):=by simp [hc]
theorem Kn (ds:List bT) (i:Nat) (d:bT):(fW ds).set i d.cells=fW (ds.set i d):=by simp [fW]
theorem b6.iy {aw:Nat->Tag} {X:bR} (h:b6 A aw w aJ X) {k:Nat} {c:cn} (a:X.aR[i]?=some c) (al:c.cells[k]?=some v):w.cell? ⟨X.aY,0+i * 7+k,none⟩=some v:=by rw [gM];exact h.cls.cell (yu (Bp _) (u3 a) al)
theorem bR.sk (X:bR) (c:Int):(X.pure.cE c=none/\(c<0\/(X.aR.length:Int)<=c))\/∃ i x,c=(i:Nat)/\X.aR[i]?=some x/\X.pure.cE c=some x.pure:=by
 unfold aE.cE;by_cases b:c<0
 ·exact .inl ⟨by rw [if_pos b],.inl b⟩
 ·rw [if_neg b];cases a:X.aR[c.toNat]? with
  |none=>exact .inl ⟨by simp [bR.pure,a],.inr (by have:=BI.1 a;omega)⟩
  |some x=>exact .inr ⟨c.toNat,x,by omega,a,by simp [bR.pure,a]⟩
theorem uO {aw:Nat->Tag} {X:bR} (h:b6 A aw w aJ X) {c:Int} (d:c<0\/(X.aR.length:Int)<=c) :
  bb 44 [ptr aJ,.int .i64 c] w λv w'=>v=.pointer none/\w'=w:=by
 refine bd Tryz.func44 ?_;rw [ptr,Gk];refine bc (λ_=>⟨rfl,rfl⟩) (λa=>?_)
 exact ⟨_,_,_,h.ck.cell rfl,bc (λ_=>⟨rfl,rfl⟩) (λb=>by omega)⟩
theorem sC {aw:Nat->Tag} {X:bR} (h:b6 A aw w aJ X) {x:cn} (a:X.aR[i]?=some x) :
  bb 44 [ptr aJ,.int .i64 i] w λv w'=>v=.pointer (some ⟨X.aY,0+i * 7,none⟩)/\w'=w:=by
 refine bd Tryz.func44 ?_;rw [ptr,Gk];have:=b3 a;refine bc (λ_=>by omega) (λb=>⟨_,_,_,h.ck.cell rfl,bc (λ_=>by omega) (λc=>⟨_,_,_,h.ck.cell rfl,ej (by omega) (by omega) ⟨rfl,rfl⟩⟩)⟩)
theorem DV {aw:Nat->Tag} {X:bR} (h:b6 A aw w aJ X) (c:Int):bb 43 [ptr aJ,.int .i64 c] w λv w'=>v=.bool (X.pure.alive c)/\w'=w:=by
 refine bd Tryz.func43 ?_;rw [ptr,UX];unfold aE.alive;rcases X.sk c with ⟨a,b⟩ | ⟨i,x,rfl,a,b⟩
 ·refine aD (uO h b) ?_;rintro v w' ⟨rfl,rfl⟩;rw [a];exact ⟨_,rfl,rfl,rfl⟩
 ·refine aD (sC h a) ?_;rintro v w' ⟨rfl,rfl⟩;rw [b];exact ⟨_,rfl,⟨_,h.iy (k:=0) a rfl,rfl,rfl⟩⟩
theorem Ko {aw:Nat->Tag} {X:bR} (h:b6 A aw w aJ X) (c:Int):bb 63 [ptr aJ,.int .i64 c] w λv w'=>v=.int .i64 (X.pure.waiting c)/\w'=w:=by
 refine bd Tryz.func63 ?_;rw [ptr,Uv];unfold aE.waiting;rcases X.sk c with ⟨a,b⟩ | ⟨i,x,rfl,a,b⟩
 ·refine aD (uO h b) ?_;rintro v w' ⟨rfl,rfl⟩;rw [a];exact ⟨_,rfl,rfl,rfl⟩
 ·refine aD (sC h a) ?_;rintro v w' ⟨rfl,rfl⟩;rw [b];exact ⟨_,rfl,⟨_,h.iy (k:=4) a rfl,rfl,rfl⟩⟩
theorem DW {aw:Nat->Tag} {X:bR} (h:b6 A aw w aJ X):bb 38 [ptr aJ] w λv w'=>v=.int .i64 X.nodes.length/\w'=w:=by refine bd Tryz.func38 ?_;rw [ptr,UW];exact ⟨_,_,_,h.ck.cell rfl,rfl,rfl⟩
theorem s9 {e cap:Nat} {cl:ax} {n:Nat} (h:a1 w e 1 a n cap cl) (al:cl[i]?=some v) {K:aX->Prop} {z:Int} (au:z=i) (f:∀ bx,w.cell? bx=some v->(∃ g,a=some ⟨g,0,none⟩/\bx=⟨g,0+i * 1,none⟩)->K bx):bA a n z 1 K:=by
 subst au;have o:=b3 al;have k:=h.1;rcases h.2 with ⟨_,b,_⟩ | ⟨g,cur,rfl,c,hle,l,hlen,j⟩
 ·subst b;omega
 ·refine ej (by omega) (by omega) ?_;refine f _ ?_ ⟨g,rfl,by simp⟩;have d:cur[i]?=some v:=by
   rw [<-j] at al;rw [m4] at al;split at al
   ·exact al
   ·cases al
  have:=c.cell d;simpa using this
theorem Bq {aw:Nat->Tag} {X:bR} (h:b6 A aw w aJ X) {x:hF} (a:X.nodes[i]?=some x):bb 39 [ptr aJ,.int .i64 i] w λv w'=>v=ptr x.b/\w'=w:=by refine bd Tryz.func39 ?_;rw [ptr,Vl];have:=b3 a;refine bc (λ_=>by omega) (λd=>⟨_,_,_,h.ck.cell rfl,bc (λ_=>by omega) (λe=>⟨_,_,_,h.ck.cell rfl,?_⟩)⟩);exact s9 (v:=ptr x.b) (i:=i) h.nodes (by simp [a]) rfl λbx c _=>⟨_,c,rfl,rfl⟩
theorem b6.setNode {aw:Nat->Tag} {X:bR} (h:b6 A aw w aJ X) {x:hF} (g:X.nodes[i]?=some x) {n':aN} (l:ao (λk=>k=x.b\/k=x.aH) w w') (q:ea w' x.b x.aH n') :
  ∃ A',Next A A' aw aw w w'/\b6 A' aw w' aJ { X with nodes:=X.nodes.set i { x with n:=n' } }:=by
 have d:=h.node i x g;obtain ⟨m,aU⟩:=h.move (χ':=aw) (T:=λt=>t=.node i\/t=.word i) (w':=w') (l.mono λk _ a=>a.elim (λe=>.inl (e▸d.tag)) (λe=>.inr (e▸d.j5))) (by simp) (λ_ _ h=>h) (λ_ _ _ _=>rfl);refine ⟨_,aU,m.mo,λk a=>gi (a.elim (λa=>h.low k (h.e9 k a)) (λa=>a.1)) l.size,?_,h.gT,?_,h.jY,?_,(av.cU m h.cls h.fk (by simp) (by simp)).1,h.fk,λj c a=>(h.aW j c a).cU m ?_,(a1.cU m h.gb h.ki (by simp) (by simp)).1,h.ki,λp o=>dM.cU m (h.eC p o).1 (h.eC p o).2 (by simp) (by simp),h.nodup⟩
 ·have:=(av.cU m h.ck h.gT (by simp) (by simp)).1;simpa [bR.cells] using this
 ·have:=(a1.cU m h.nodes h.jY (by simp) (by simp)).1;have e:((X.nodes.set i { x with n:=n' }).map λx=>ptr x.b)=X.nodes.map λx=>ptr x.b:=by
   rw [iH];apply jK;intro k;rw [im];split
   ·rename_i he;subst he;split
    ·simp [g]
    ·rename_i a;exact absurd (b3 g) (by simpa using a)
   ·rfl
  rw [e];simpa using this
 ·intro j y f;simp only [im] at f;split at f
  ·rename_i he;subst he;split at f
   ·simp only [fg] at f;subst f;exact ⟨q,d.tag,d.j5⟩
   ·cases f
  ·rename_i he;exact (h.node j y f).cU m (by simp;exact λe=>he e.symm) (by simp;exact λe=>he e.symm)
 ·intro t r;cases t<;>simp [iO] at r ⊢
end
end Go.Proofs.YtmkljjbioomepaaGreat
