import Derived.Test.YtmkljjbioomepaaGreate09
set_option linter.all false
set_option maxHeartbeats 4000000
set_option maxRecDepth 100000
namespace Go.Proofs.YtmkljjbioomepaaGreat
open Go.Proofs.Tryz Go.bn
variable {A A':a2} {a:an} {aM i:Nat} {v:a0} {w w':al}
section
theorem BW {M:a2} {b fk fa:Nat} {p:da} {n:aH} (h:dx M w b p) (X:dK w fk fa n) (U2:M fa) (WG:M fk) (VH:¬ aL p.c0 fa) (WJ:p.pure.h') :
  ba 70 [.pointer (some ⟨b,0,none⟩),.pointer (some ⟨fk,0,none⟩)] w (wD M b fk fa p n w):=by
 refine bc Tryz.func70 ?_;rw [R_];rintro b1 w1 VQ U9;obtain ⟨UZ,UO⟩:=bk VQ U9;have V8:w1.heap.size=w.heap.size+1:=by rw [U9];simp
 clear U9;have U5:=h.new UO;have WA:=X.new UO;have VS:=h.ak.lt;have WH:=X.node.lt;have Wo:=X.words.lt;have W:∀ k,aL p.c0 k->k<w.heap.size:=λk f=>h.jU.lt f
 have Ur:∀ k,aL p.cT k->k<w.heap.size:=λk f=>h.own.lt f
 refine ⟨_,_,_,U5.ak.cell rfl,dJ (λhe=>?_) (λhe=>?_)⟩
 ·have V':p.a6=[]:=fb (by omega);have q:p.pure.step n=(p.pure,n,none):=Kz V';refine ⟨fI (vs:=bF.cells ⟨0,none,0,0⟩) UZ (by simp [bF.cells]) (bF.single _),?_⟩;intro WU We;obtain ⟨VV,U3⟩:=nK (vs:=bF.cells ⟨0,none,0,0⟩) UZ (by simp [bF.cells]) UO (by omega) We;refine sk (d:=⟨0,none,0,0⟩) (ru VV) ⟨rfl,⟨0,none,0,0⟩,p,?_,?_,?_,?_,?_,?_,ao.bZ U3,.inl rfl,.inl rfl,?_⟩
  ·rw [q];rfl
  ·rw [q]
  ·rw [q];exact X.new U3
  ·rw [q];intro x WN;cases WN
  ·rintro k ⟨o,A⟩;cases A
  ·intro M' Y N;refine (h.new U3).l4 (λk _ f=>?_) N;rcases Y k f with f | f | f
   ·exact f.2
   ·exact h.hS k (.inr (.inl f))
   ·exact h.hS k (.inr (.inr f))
  ·rintro k ⟨o,A⟩;cases A
 obtain ⟨x,xs,Uj⟩:∃ x xs,p.a6=x::xs:=by
  cases V3:p.a6 with
  |nil=>rw [V3] at he;simp at he
  |cons x xs=>exact ⟨x,xs,rfl⟩
 obtain ⟨v,vs,VF⟩:∃ v vs,p.raw=v::vs:=by
  cases V3:p.raw with
  |nil=>have:=h.vs.1;rw [V3,Uj] at this;simp at this
  |cons v vs=>exact ⟨v,vs,rfl⟩
 have aj:cA M w v x:=h.vs.2 0 v x (by rw [VF];rfl) (by rw [Uj];rfl);have q:=IE (p:=p.pure) (n:=n) Uj;refine ⟨_,_,_,U5.ak.cell rfl,?_⟩;obtain ⟨WS,dg,Wb,VU,WB⟩:=U5.own.rd.row (tm p.raw) (by omega) (i:=0) (r:=v.cells) (by rw [VF];rfl);rw [Wb];refine dT (by omega) (by omega) ?_;refine iy (v:=v) (by simpa using VU) ?_;rintro az WP VR U_;obtain ⟨Vc,V0⟩:=bk VR U_;have V9:WP.heap.size=w.heap.size+2:=by rw [U_];simp [V8]
 clear U_;refine ⟨fI (vs:=aF.cells v) Vc (by simp [aF.cells]) (aF.single v),?_⟩;intro Ww U';have WK:Ww.heap.size=w.heap.size+2:=by rw [U',zw,V9]
 obtain ⟨VI,Vz⟩:=nK (vs:=aF.cells v) Vc (by simp [aF.cells]) V0 (by omega) U';clear U' Vc;have Up:Go.bn.ai w Ww:=UO.new Vz;have VW:=ai.ak Vz UZ;refine iy (v:=v) (gF VI) ?_;refine aD (IC (h.new Up) (X.new Up) (aj.ax (ao.bZ Up) λ_ _ h=>h)) ?_;rintro r Wk ⟨rfl,UN⟩;have UG:=Up.new UN;have Vm:=ai.ak UN VW;have VJ:=ai.ak UN VI;have WL:=UN.size;have Uw:b1≠b:=by omega
 have UV:∀ k,p.mut b k->k<w.heap.size:=λk f=>by
  rcases f with rfl | f | f
  ·exact VS
  ·exact Ur k f
  ·exact W k f
 have Wn:dx (λk=>(k<w.heap.size/\M k)\/k=b1) Wk b p:=by
  refine (h.l4 (λk Vx f=>?_) (λk f=>.inl ⟨UV k f,h.hS k f⟩)).new UG;rcases f with f | f
  ·exact f.2
  ·omega
 have Wm:az≠b:=by omega
 refine ⟨_,rfl,dt (λV1=>?_) (λau=>?_)⟩
 ·
  rw [if_pos V1] at q;refine aD (Ga Wn (by rw [Uj];simp)) ?_;rintro r WQ ⟨rfl,cT,fl,Ui,Vu,Vq⟩;have Vn:=Vu.ak Vm Uw;refine ⟨rfl,fI (vs:=bF.cells ⟨p.pure.refusal x n,none,0,0⟩) Vn (by simp [bF.cells]) (bF.single _),?_⟩;intro Wl Va;have VX:av Wl b1 (bF.cells ⟨p.pure.refusal x n,none,0,0⟩) ij:=by rw [Va];have:=Vn.cl (o:=0) (i:=0) (vs:=bF.cells ⟨p.pure.refusal x n,none,0,0⟩);rw [oy (by simp [bF.cells])] at this;exact this
  have Vv:ao (λk=>k=b1) WQ Wl:=by rw [Va];exact ht _ _ _ _ _
  clear Va;have L:ao (λk=>k=b) w Wl:=((ao.bZ UG).trans Vu λ_ _ h=>h).trans Vv λk f he=>by omega
  refine sk (d:=⟨p.pure.refusal x n,none,0,0⟩) (ru VX) ⟨rfl,⟨p.pure.refusal x n,none,0,0⟩,p.done cT fl,?_,?_,?_,?_,?_,?_,L.mono (λk _ e=>.inl e),.inr ?_,?_,?_⟩
  ·rw [q];rfl
  ·rw [q];rfl
  ·rw [q];refine X.ax L (λe=>?_) (λe=>?_)
   ·have:=av.iA X.node (e▸h.ak);revert this;decide
   ·have:=av.iA X.words (e▸h.ak);revert this;decide
  ·rw [q];intro y Vb;simp only [e7] at Vb;subst Vb;exact ⟨rfl,rfl,bg.nil _ _,λ_=>rfl,by simp,by simp,rfl⟩
  ·rintro k ⟨o,A⟩;cases A
  ·intro M' Y N;have U7:=Ui (λk=>M' k\/k=b1) (λk f=>?_) (λk f=>.inl (N k f))
   ·refine (U7.ax Vv (λk f he=>?_) (λk he=>.inr he)).l4 (λk _ f=>.inl f) N;rcases f with f | f | ⟨o,A⟩
    ·omega
    ·have:=Vq k f;omega
    ·cases A
   ·rcases f with f | f
    ·rcases Y k f with Z | Z | ⟨o,A⟩
     ·exact .inl ⟨by omega,.inl Z⟩
     ·exact .inr Z
     ·cases A
    ·exact .inl ⟨by omega,.inr f⟩
  ·intro k f;have:=Vq k f;omega
  ·right;rintro k ⟨o,A⟩;cases A
  ·rintro k ⟨o,A⟩;cases A
 ·
  rw [if_neg (λR=>R au)] at q;obtain ⟨V_,Wd⟩:=GG au;obtain ⟨Vh,Vt⟩:=v_ Wd;have Vs:=ox Vt;have V2:=X.len;have VZ:x.v.b6=(x.at_+x.v.count - 1) / 8:=rfl;have Vg:x.v.bQ=x.at_:=rfl;have Vo:x.at_+x.v.count<=n.words.length:=by have Ut:=Vs.2.2.2.2.2.2.2.2.2.1;rw [VZ] at Ut;omega
  have VC:=WJ x xs Uj;have UI:x.v.pieces[p.bO]?=some (x.v.pieces.getD p.bO (0,0)):=by have:p.bO<x.v.pieces.length:=VC;simp [this]
  have V6:x.v.pieces.length<=1024:=by have:=pI x.v.count.toNat x.v.bQ x.v.count;have WT:=Vs.2.2.2.2.2.2.2.2.1;show (gI _ _ _).length<=1024;omega
  have H:=vR x.v.count.toNat x.v.bQ x.v.count (by omega) _ (cj UI);have V4:p.pure.bO=p.bO:=rfl;rw [V4] at q;generalize Wp:x.v.pieces.getD p.bO (0,0)=pc at UI H q;refine iy (v:=v) (gF VJ) ?_;refine aD (Jx _ v (by rw [aj.at_];omega) (by rw [aj.at_];omega) (by rw [aj.count];exact Vh) (by rw [aj.count];omega)) ?_;rintro r WR ⟨aX,Wu,rfl,UY,Vw,V5⟩;rw [aj.pieces] at UY;refine ⟨_,_,_,rfl,?_⟩;intro VN VG;have U1:Go.bn.ai WR VN:=by rw [VG];exact cL _
  clear VG;have Uq:=(UG.new Vw).new U1;have Uo:=Vw.new U1;have WM:=Uo.size;have U6:=Wn.new Uo;have VP:=X.new Uq;have VY:=ai.ak Uo Vm;have Wg:=ai.ak Uo VJ;have U8:=UY.new U1;have Q:b≠fa:=by intro e;have:=av.iA X.words (e▸h.ak);revert this;decide
  have Ux:¬ aL p.c0 b:=by intro R;obtain ⟨cs,D⟩:=fm h.jU R;have:=av.iA D h.ak;revert this;decide
  obtain ⟨Wi,Wv,VB,_,V7⟩:=U8.row (I0 _) (by omega) (I1 UI);have WI:Wk.heap.size<=Wi:=by have:=V5 Wi (by rw [VB];exact ⟨Wv,rfl⟩);exact this
  have VD:∀ u,ao (λk=>k=fa\/aL p.c0 k) VN u->b7 u ⟨Wi,Wv+p.bO * 2,none⟩ 0 [.int .i64 pc.1,.int .i64 pc.2]:=by
   intro u hu;refine kD λj WO WF=>jj hu ?_ ?_
   ·have:=V7 j WO WF;simpa using this
   ·rintro (R | R)
    ·simp at R <;> omega
    ·have:=W _ R;simp at this <;> omega
  refine ⟨λu=>ao (λk=>k=fa\/aL p.c0 k) VN u,ao.refl _ _,_,_,_,λu hu=>(hu.ak U6.ak (λR=>R.elim Q Ux)).cell rfl,
   l3 (v:=v) (λu hu=>gF (hu.ak Wg (λR=>R.elim (λe=>by omega) (λe=>by have:=W _ e;omega)))) ⟨_,λu hu=>(hu.ak U6.ak (λR=>R.elim Q Ux)).cell rfl,?_⟩⟩
  rw [VB];have Vp:p.bO<x.v.pieces.length:=VC;refine dT (by omega) (by rw [aj.pieces];omega) ⟨pc.1,pc.2,λu hu=>by simpa using VD u hu,?_⟩;have Wa:cA M VN v x:=aj.ax (ao.bZ Uq) λ_ _ h=>h
  have U4:x.words=[]\/fM (λk=>k=fa) v.Words:=by
   rcases aj.off with A | A
   ·exact .inl A
   ·refine .inr ?_;cases cB:v.Words with
    |none=>trivial
    |some a=>rw [cB] at A;intro R;exact A (by rw [R];exact U2)
  refine aD (ID VP V_ Wa U4 (by rw [<-Vg];exact H.1) H.2.1 H.2.2.1 (by rw [<-Vg];exact H.2.2.2) (by omega) Vo) ?_;rintro r VK ⟨Wy,Vf,rfl,UT,WC,UR,S⟩;have Uz:=LQ X x pc;have U0:=KA (x:=x) (n:=n) H.2.2.1 H.2.1;generalize aJ:exec x pc n=E at UT UR q Uz U0;have Wq:=S.size;refine ⟨_,_,_,rfl,S.mono (λk _ e=>.inl e),?_⟩;have UH:dx (λk=>(k<w.heap.size/\M k)\/k=b1) VK b p:=by
   refine U6.ax S (λk f he=>?_) (λk he=>.inl ⟨by omega,by rw [he];exact U2⟩);rcases f with f | f | f
   ·exact Q (f.symm.trans he)
   ·obtain ⟨cs,D⟩:=fm h.own f;have:=av.iA D (he▸X.words);revert this;decide
   ·exact VH (he▸f)
  have Wf:=h.ko;obtain ⟨inf,WE,Wh,UP,VT⟩:=fp (T:=pr) (z:=.int .u64 0) (n:=1) (m:=8) (by kernel_rfl);have UW:=UH.jU;rw [<-UP] at UW;obtain ⟨ap,l,Vd,VE,B,UA,Uu⟩:=UW.append (P:=prog) (t:=94) (ty:=94) Tryz.underlying94 WE Wh (by rw [UP];rfl) (by omega)
   (s:=Wy) (m:=E.2.length) (c:=Vf) (news:=us E.2) (by rw [UP,hg];omega) UT (oB _) (by omega) (by rw [VT];omega)
  rw [UP,zx] at B;refine ⟨ap,p.words.length+E.2.length,l,Vd,VE,(S.mono (λk _ e=>.inl e)).trans UA (λk _ f=>.inr f),?_⟩;have O:av Vd b p.cells po:=UA.ak UH.ak Ux;refine ⟨⟨_,O.cell rfl⟩,O.frozen,?_⟩;intro Ve UJ;have UB:ao (λk=>k=b) Vd Ve:=by rw [UJ];exact eA _ _ _ _
  have Ul:av Ve b (p.cells.set 5 (.slice ap (p.words.length+E.2.length) l)) po:=by rw [UJ];exact O.setCell _
  clear UJ;refine ⟨_,Ul.cell rfl,⟨_,Ul.cell rfl⟩,Ul.frozen,?_⟩;intro F Us;have UC:ao (λk=>k=b) Ve F:=by rw [Us];exact eA _ _ _ _
  have Wz:IntKind.i64.wrap ((p.bO:Int)+1)=((p.bO+1:Nat):Int):=by rw [bA (by omega) (by omega)];rfl
  rw [Wz] at Us;have Uv:av F b ((p.cells.set 5 (.slice ap (p.words.length+E.2.length) l)).set 4 (.int .i64 (p.bO+1:Nat))) po:=by rw [Us];exact Ul.setCell _
  clear Us;have Uk:ap=p.c0\/∀ k,aL ap k->Wk.heap.size<=k:=by
   rcases Uu with Uu | Uu
   ·exact .inl Uu
   ·refine .inr ?_;rintro k ⟨o,A⟩;rw [Uu] at A;simp at A <;> omega
  have J:ao (λk=>k=b\/aL p.c0 k) VK F:=((UA.mono λk _ f=>.inr f).trans UB λk _ f=>.inl f).trans UC λk _ f=>.inl f
  have K:ao (λk=>k=b\/aL p.c0 k\/k=fa) VN F:=(S.mono λk _ f=>.inr (.inr f)).trans J λk _ f=>f.elim .inl λe=>.inr (.inl e)
  have US:dK F fk fa E.1:=by
   refine UR.ax J ?_ ?_
   ·rintro (e | e)
    ·have:=av.iA X.node (e▸h.ak);revert this;decide
    ·obtain ⟨cs,D⟩:=fm h.jU e;have:=av.iA D X.node;revert this;decide
   ·rintro (e | e)
    ·exact Q e.symm
    ·exact VH e
  have Um:av F b1 _ ij:=K.ak VY (by rintro (e | e | e);exact Uw e;have:=W _ e;omega;omega);have UX:dx (λk=>((k<w.heap.size/\M k)\/k=b1)\/aL ap k) F b { p with bO:=p.bO+1,words:=p.words++E.2,c0:=ap,dY:=l }:=by
   have UF:∀ k,p.mut b k->k<w.heap.size/\M k:=λk f=>⟨UV k f,h.hS k f⟩
   have Wc:∀ k,aL p.cT k->¬ (k=b\/aL p.c0 k):=by
    rintro k f (e | e)
    ·obtain ⟨cs,D⟩:=fm h.own f;have:=av.iA D (e▸h.ak);revert this;decide
    ·obtain ⟨cs,D⟩:=fm h.own f;obtain ⟨Wx,Vi⟩:=fm h.jU e;have:=av.iA D Vi;revert this;decide
   have C:∀ k,aL ap k->k≠b:=by rintro k f e;obtain ⟨cs,D⟩:=fm B f;have:=av.iA D (e▸O);revert this;decide
   refine ⟨?_,UH.own.ax J Wc,?_,?_,h.aP,h.inc,h.node,h.len,?_,h.l_,?_,?_,?_⟩
   ·have e:da.cells { p with bO:=p.bO+1,words:=p.words++E.2,c0:=ap,dY:=l }=(p.cells.set 5 (.slice ap (p.words.length+E.2.length) l)).set 4 (.int .i64 (p.bO+1:Nat)):=by simp only [da.cells,c8];rfl
    rw [e];exact Uv
   ·show aY F pr 1 ap (p.words++E.2).length l (us (p.words++E.2));rw [c8];exact (B.ax UB C).ax UC C
   ·show dX _ F p.raw p.a6;refine h.vs.ax ((ao.bZ Uq).trans (M:=M) K ?_) ?_
    ·rintro k _ (e | e | e)
     ·exact h.hS k (.inl e)
     ·exact h.hS k (.inr (.inr e))
     ·rw [e];exact U2
    ·rintro k Vx ((f | f) | f)
     ·exact f.2
     ·omega
     ·rcases Uk with e | e
      ·exact h.hS k (.inr (.inr (e▸f)))
      ·have:=e k f;omega
   ·show (p.words++E.2).length<=8 * (p.bO+1);rw [c8];omega
   ·show match p.a6 with | []=>p.bO+1=0 | x::_=>p.bO+1<=x.v.pieces.length
    rw [Uj];exact Vp
   ·intro u hu;rcases gH.1 hu with hu | hu
    ·exact h.rO u hu
    ·exact Uz u hu
   ·rintro k (e | e | e)
    ·exact .inl (.inl (UF k (.inl e)))
    ·exact .inl (.inl (UF k (.inr (.inl e))))
    ·exact .inr e
  have Wr:=K.size;have I:∀ k,aL ap k->k≠b1:=by
   intro k f e;rcases Uk with Ut | Ut
   ·have:=W k (Ut▸f);omega
   ·have:=Ut k f;omega
  have C:∀ k,aL ap k->k≠b:=by rintro k f e;obtain ⟨cs,D⟩:=fm B f;have:=av.iA D (e▸O);revert this;decide
  have UE:ao (λk=>k=b\/aL p.c0 k\/k=fa) w F:=(ao.bZ Uq).trans K λ_ _ h=>h
  refine ⟨_,Uv.cell rfl,?_⟩;rw [aj.pieces];refine a9 (λVx=>?_) (λWD=>?_)
  ·
   have Vy:p.bO+1<x.v.pieces.length:=by omega
   rw [if_pos Vy] at q;refine ⟨fI (vs:=bF.cells ⟨0,none,0,0⟩) Um (by simp [bF.cells]) (bF.single _),?_⟩;intro VL UK;have Vj:av VL b1 (bF.cells ⟨0,none,0,0⟩) ij:=by rw [UK];have:=Um.cl (o:=0) (i:=0) (vs:=bF.cells ⟨0,none,0,0⟩);rw [oy (by simp [bF.cells])] at this;exact this
   have UD:ao (λk=>k=b1) F VL:=by rw [UK];exact ht _ _ _ _ _
   clear UK;refine sk (d:=⟨0,none,0,0⟩) (ru Vj) ⟨rfl,⟨0,none,0,0⟩,{ p with bO:=p.bO+1,words:=p.words++E.2,c0:=ap,dY:=l },?_,?_,?_,?_,?_,?_,?_,.inl rfl,?_,?_⟩
   ·rw [q];rfl
   ·rw [q];rfl
   ·rw [q];refine US.ax UD (λe=>?_) (λe=>?_)
    ·omega
    ·omega
   ·rw [q];intro y Vb;cases Vb
   ·rintro k ⟨o,A⟩;cases A
   ·intro M' Y N;refine (UX.ax UD (λk f he=>?_) (λk he=>.inl (.inr he))).l4 (λk _ f=>?_) N
    ·rcases f with f | f | f
     ·omega
     ·have:=Ur k f;omega
     ·exact I k f he
    ·rcases Y k f with f | f | f
     ·exact .inl (.inl f)
     ·exact .inl (.inl ⟨Ur k f,h.hS k (.inr (.inl f))⟩)
     ·exact .inr f
   ·exact UE.trans UD λk f e=>by omega
   ·rcases Uk with Ut | Ut
    ·exact .inl Ut
    ·exact .inr λk f=>by have:=Ut k f;omega
   ·rintro k ⟨o,A⟩;cases A
  ·
   have Vr:¬ p.bO+1<x.v.pieces.length:=by omega
   rw [if_neg Vr] at q;refine ⟨_,_,_,Uv.cell rfl,fI (vs:=bF.cells ⟨0,ap,p.words.length+E.2.length,l⟩) Um (by simp [bF.cells]) (bF.single _),?_⟩;intro VM UL;have Vk:av VM b1 (bF.cells ⟨0,ap,p.words.length+E.2.length,l⟩) ij:=by rw [UL];have:=Um.cl (o:=0) (i:=0) (vs:=bF.cells ⟨0,ap,p.words.length+E.2.length,l⟩);rw [oy (by simp [bF.cells])] at this;exact this
   have U:ao (λk=>k=b1) F VM:=by rw [UL];exact ht _ _ _ _ _
   clear UL;have Ws:=U.size;have VA:=UX.ax U (λk f he=>by
    rcases f with f | f | f
    ·omega
    ·have:=Ur k f;omega
    ·exact I k f he) (λk he=>.inl (.inr he))
   refine aD (Ga VA (by show p.a6≠[];rw [Uj];simp)) ?_;rintro r Wj ⟨rfl,cT,fl,Ui,V,UU⟩;have Wt:=V.size;have Uy:=V.ak Vk Uw;refine ⟨rfl,sk (d:=⟨0,ap,p.words.length+E.2.length,l⟩) (ru Uy) ⟨fI (vs:=bF.cells ⟨0,ap,p.words.length+E.2.length,l⟩) Uy (by simp [bF.cells]) (bF.single _),?_⟩⟩;intro UQ UM;have Vl:av UQ b1 (bF.cells ⟨0,ap,p.words.length+E.2.length,l⟩) ij:=by rw [UM];have:=Uy.cl (o:=0) (i:=0) (vs:=bF.cells ⟨0,ap,p.words.length+E.2.length,l⟩);rw [oy (by simp [bF.cells])] at this;exact this
   have Un:ao (λk=>k=b1) Wj UQ:=by rw [UM];exact ht _ _ _ _ _
   clear UM;have G:aY UQ pr 1 ap (p.words.length+E.2.length) l (us (p.words++E.2)):=
    (((((B.ax UB C).ax UC C).ax U I).ax V C).ax Un I)
   have L:ao (λk=>k=b\/aL p.c0 k\/k=fa) w UQ:=
    ((UE.trans U λk f e=>by omega).trans V λk _ e=>.inl e).trans Un λk f e=>by omega
   refine sk (d:=⟨0,ap,p.words.length+E.2.length,l⟩) (ru Vl) ⟨rfl,⟨0,ap,p.words.length+E.2.length,l⟩,da.done { p with bO:=p.bO+1,words:=p.words++E.2,c0:=ap,dY:=l } cT fl,?_,?_,?_,?_,?_,?_,L,.inr ?_,.inr ?_,?_⟩
   ·rw [q];rfl
   ·rw [q];rfl
   ·rw [q];refine ((US.ax U (λe=>by omega) (λe=>by omega)).ax V (λe=>?_) (λe=>Q e.symm)).ax Un (λe=>by omega) (λe=>by omega);have:=av.iA X.node (e▸h.ak);revert this;decide
   ·rw [q];intro y Vb;simp only [e7] at Vb;subst Vb;refine ⟨rfl,by simp [da.pure],G.rd,?_,?_,G.le,rfl⟩
    ·intro R;rcases G.2 with ⟨_,VO,_⟩ | ⟨g,cur,VO,_⟩
     ·exact fb (by simpa [da.pure] using VO)
     ·rw [show ap=none from R] at VO;cases VO
    ·intro u hu;rcases gH.1 hu with hu | hu
     ·exact h.rO u hu
     ·exact Uz u hu
   ·intro k f;rcases Uk with Ut | Ut
    ·exact .inl (Ut▸f)
    ·have:=Ut k f;exact .inr (by omega)
   ·intro M' Y N;have U7:=Ui (λk=>M' k\/k=b1) (λk f=>?_) (λk f=>.inl (N k f))
    ·refine (U7.ax Un (λk f he=>?_) (λk he=>.inr he)).l4 (λk _ f=>.inl f) N;rcases f with f | f | ⟨o,A⟩
     ·omega
     ·have:=UU k f;omega
     ·cases A
    ·rcases f with f | f
     ·rcases Y k f with Z | Z | ⟨o,A⟩
      ·exact .inl ⟨by omega,.inl (.inl Z)⟩
      ·exact .inr Z
      ·cases A
     ·exact .inl ⟨by omega,.inl (.inr f)⟩
   ·intro k f;have:=UU k f;omega
   ·rintro k ⟨o,A⟩;cases A
   ·intro k f;exact fm G f
end
section
structure cH where
 pair:cF
 bt:d9
structure bf where
 alive:Bool
 inc:Int
 ay:List cH
 batch:Option (List aC)
 waiting:Nat
 kj:Int
 mO:Int
structure aB where
 lines:Nat
 nodes:List aH
 aU:List bf
 bP:List cF
structure fw where
 ea:Int
 aP:Int
 node:Int
def aB.cC (F:aB) (c:Int):Option bf:=if c<0 then none else F.aU[c.toNat]?
def aB.nd (F:aB) (i:Int):Option aH:=if i<0 then none else F.nodes[i.toNat]?
def bf.eK (C:bf) (k:Nat) (v:aG):bf:=
 {C with ay:=C.ay.modify v.node.toNat λl=>⟨{ l.pair with a6:=l.pair.a6++[v] },l.bt++[k]⟩ }
def bf.eS (C:bf) (k:Nat):List aG->bf
 | []=>C
 |v::vs=>(C.eK k v).eS (k+1) vs
def gy (nodes lines:Int):List aG->Int
 | []=>0
 |v::vs=>if v.v.valid nodes lines≠0 then v.v.valid nodes lines else gy nodes lines vs
def bf.jL (C:bf) (vs:List aG):bf:=
 {(C.eS 0 vs) with batch:=some (List.replicate vs.length ⟨0,[]⟩),waiting:=vs.length,kj:=IntKind.i64.wrap (C.kj+1),mO:=IntKind.i64.wrap (C.mO+vs.length) }
def aB.fS (F:aB) (c:Int) (C:bf):aB:={ F with aU:=F.aU.set c.toNat C }
def aB.post (F:aB) (c:Int) (vs:List aG):Int×aB:=
 match F.cC c with
 |none=>(1,F)
 |some C=>
  if C.alive=false then (1,F) else if C.batch.isSome then (3,F) else if vs.length=0 then (1,F) else if vs.length>1024 then (18,F)
  else if gy F.nodes.length F.lines vs≠0 then (gy F.nodes.length F.lines vs,F)
  else (0,F.fS c (C.jL vs))
def aB.waiting (F:aB) (c:Int):Nat:=match F.cC c with
 |none=>0
 |some C=>C.waiting
def aB.alive (F:aB) (c:Int):Bool:=match F.cC c with
 |none=>false
 |some C=>C.alive
def aB.kj (F:aB) (c:Int):Int:=match F.cC c with
 |none=>0
 |some C=>C.kj
def aB.take (F:aB) (c:Int):Option (List aC)×aB:=
 match F.cC c with
 |none=>(none,F)
 |some C=>if C.alive=false then (none,F) else match C.batch with
  |none=>(none,F)
  |some ds=>if 0<C.waiting then (none,F) else (some ds,F.fS c { C with batch:=none })
def kA (i:Nat):Nat->List cH->List fw
 | _,[]=>[]
 |j,l::ls=>(if 0<l.pair.a6.length then [⟨-1,i,j⟩] else [])++kA i (j+1) ls
def ji:Nat->List bf->List fw
 | _,[]=>[]
 |i,c::cs=>kA i 0 c.ay++ji (i+1) cs
def lO:Nat->List cF->List fw
 | _,[]=>[]
 |i,p::cn=>⟨i,p.aP,p.node⟩::lO (i+1) cn
def aB.eV (F:aB):List fw:=ji 0 F.aU++lO 0 F.bP
def aB.drop (F:aB) (i:Int):Bool×aB:=if i<0\/F.bP.length<=i.toNat then (false,F) else (true,{ F with bP:=F.bP.eraseIdx i.toNat })
def aB.jb (F:aB) (i:Nat):Bool×aB:=
 match F.bP[i]? with
 |none=>(false,F)
 |some p=>match F.nodes[p.node.toNat]? with
  |none=>(false,F)
  |some n=>
   let r:=p.step n;let cw:={ F with nodes:=F.nodes.set p.node.toNat r.2.1,bP:=if r.1.a6.length=0 then F.bP.eraseIdx i else F.bP.set i r.1 }
   (true,cw)
def bf.comes (C:bf) (j:Nat) (l:cH) (p:cF):Option aC->bf
 |none=>{ C with ay:=C.ay.set j { l with pair:=p } }
 |some d=>{ C with ay:=C.ay.set j ⟨p,l.bt.tail⟩,batch:=C.batch.map λds=>ds.set (l.bt.headD 0) d,waiting:=C.waiting - 1 }
def aB.step (F:aB) (x:fw):Bool×aB:=
 if 0<=x.ea then F.jb x.ea.toNat
 else if x.ea < -1 then (false,F)
 else match F.cC x.aP with
  |none=>(false,F)
  |some C=>if x.node<0 then (false,F) else match C.ay[x.node.toNat]?,F.nodes[x.node.toNat]? with
   |some l,some n=>if l.pair.a6.length=0 then (false,F) else
    let r:=l.pair.step n
    (true,{ F with nodes:=F.nodes.set x.node.toNat r.2.1,aU:=F.aU.set x.aP.toNat (C.comes x.node.toNat l r.1 r.2.2) })
   | _,_=>(false,F)
def aB.die (F:aB) (c:Int):Bool×aB:=
 match F.cC c with
 |none=>(false,F)
 |some C=>if C.alive=false then (false,F) else
  (true,{ F with bP:=F.bP++(C.ay.map cH.pair).filter (λp=>decide (0<p.a6.length)),aU:=F.aU.set c.toNat { C with alive:=false,ay:=[],batch:=none,waiting:=0 } })
structure xL (i:Nat) (inc:Int) (j:Nat) (len:Nat) (l:cH):Prop where
 aP:l.pair.aP=i
 inc:l.pair.inc=inc
 node:l.pair.node=j
 bt:l.bt.length=l.pair.a6.length
 low:∀ k ∈ l.bt,k<len
 h':l.pair.h'
def f0 (ls:List cH):Nat:=(ls.map λl=>l.pair.a6.length).sum
structure r7 (n:Nat) (i:Nat) (C:bf):Prop where
 inc:0<=C.inc/\C.inc<=59
 ay:C.ay.length=if C.alive then n else 0
 lane:∀ (j:Nat) (l:cH),C.ay[j]?=some l->xL i C.inc j (C.batch.getD []).length l
 waiting:C.waiting=f0 C.ay
 batch:C.waiting<=(C.batch.getD []).length/\(C.batch.getD []).length<=1024
 full:∀ ds,C.batch=some ds->0<ds.length
structure nb (F:aB):Prop where
 lines:1<=F.lines/\F.lines<=256
 nodes:1<=F.nodes.length/\F.nodes.length<=5
 words:∀ n ∈ F.nodes,n.words.length=F.lines * 8
 aU:1<=F.aU.length/\F.aU.length<=6
 aP:∀ (i:Nat) (C:bf),F.aU[i]?=some C->r7 F.nodes.length i C
 ea:∀ p ∈ F.bP,0<=p.node/\p.node<F.nodes.length/\p.h'
inductive Tag where
 |ck
 |b9
 |nodes
 |node (i:Nat)
 |word (i:Nat)
 |aU
 |ay (c:Nat)
 |lane (c n:Nat)
 |bt (c n:Nat)
 |batch (c:Nat)
 |fD
 |hC (b:Nat)
def h4 (c:Nat):Tag->Prop
 | .ay i=>i=c
 | .lane i _=>i=c
 | .bt i _=>i=c
 | .batch i=>i=c
 | _=>False
structure cV where
 pb:Nat
 p:da
 bt:d9
 kf:an
 kM:Nat
def cV.pure (l:cV):cH:=⟨l.p.pure,l.bt⟩
def cV.cells (l:cV):aw:=[.pointer (some ⟨l.pb,0,none⟩),.slice l.kf l.bt.length l.kM]
structure bU where
 alive:Bool
 inc:Int
 ay:List cV
 la:an
 lc:Nat
 c9:Option Nat
 raw:List bF
 batch:List aC
 waiting:Nat
 kj:Int
 mO:Int
def bU.pure (c:bU):bf:=⟨c.alive,c.inc,c.ay.map cV.pure,c.c9.map λ_=>c.batch,c.waiting,c.kj,c.mO⟩
def bU.cells (c:bU):aw:=[.bool c.alive,.int .i64 c.inc,.slice c.la c.ay.length c.lc,.slice (c.c9.map λb=>⟨b,0,none⟩) c.raw.length c.raw.length,.int .i64 c.waiting,.int .i64 c.kj,.int .i64 c.mO]
structure iz where
 b:Nat
 aK:Nat
 n:aH
structure bl where
 lines:Nat
 nodes:List iz
 na:an
 nc:Nat
 aT:Nat
 aU:List bU
 bP:List (Nat×da)
 dg:an
 gq:Nat
def bl.pure (X:bl):aB:=⟨X.lines,X.nodes.map iz.n,X.aU.map bU.pure,X.bP.map λp=>p.2.pure⟩
def bl.cells (X:bl):aw:=[.int .i64 X.lines,.slice X.na X.nodes.length X.nc,.slice (some ⟨X.aT,0,none⟩) X.aU.length X.aU.length,.slice X.dg X.bP.length X.gq]
def ptr (b:Nat):a0:=.pointer (some ⟨b,0,none⟩)
def gE (ls:List cV):List aw:=ls.map cV.cells
def fj (cs:List bU):List aw:=cs.map bU.cells
abbrev k4:TypeId:=110
abbrev jz:TypeId:=102
abbrev k5:TypeId:=105
abbrev yn:TypeId:=92
abbrev nu:TypeId:=103
abbrev lF:TypeId:=3
structure r8 (A:a2) (ar:Nat->Tag) (w:al) (i j:Nat) (l:cV):Prop where
 pair:dx A w l.pb l.p
 tag:∀ k,l.p.mut l.pb k->ar k=.lane i j
 bt:aY w lF 1 l.kf l.bt.length l.kM (is (l.bt.map Int.ofNat))
 rb:∀ k,aL l.kf k->ar k=.bt i j
def gi (A:a2) (w:al) (raw:List bF) (xs:List aC):Prop:=raw.length=xs.length/\∀ (i:Nat) (v:bF) (x:aC),raw[i]?=some v->xs[i]?=some x->kK A w v x
structure kd (A:a2) (ar:Nat->Tag) (w:al) (i:Nat) (c:bU):Prop where
 own:aY w k5 2 c.la c.ay.length c.lc (gE c.ay).flatten
 tag:∀ k,aL c.la k->ar k=.ay i
 lane:∀ (j:Nat) (l:cV),c.ay[j]?=some l->r8 A ar w i j l
 none:c.c9=none->c.raw=[]/\c.batch=[]
 batch:∀ b,c.c9=some b->av w b (fq c.raw).flatten ij/\ar b=.batch i
 ds:gi A w c.raw c.batch
structure tZ (ar:Nat->Tag) (w:al) (i:Nat) (x:iz):Prop where
 node:dK w x.b x.aK x.n
 tag:ar x.b=.node i
 ju:ar x.aK=.word i
structure bX (A:a2) (ar:Nat->Tag) (w:al) (aM:Nat) (X:bl):Prop where
 eO:∀ k,ar k≠.ck->A k
 low:∀ k,A k->k<w.heap.size
 b9:av w aM X.cells k4
 gm:ar aM=.b9
 nodes:aY w yn 1 X.na X.nodes.length X.nc (X.nodes.map λx=>ptr x.b)
 jq:∀ k,aL X.na k->ar k=.nodes
 node:∀ (i:Nat) (x:iz),X.nodes[i]?=some x->tZ ar w i x
 cls:av w X.aT (fj X.aU).flatten jz
 eW:ar X.aT=.aU
 aP:∀ (i:Nat) (c:bU),X.aU[i]?=some c->kd A ar w i c
 fD:aY w nu 1 X.dg X.bP.length X.gq (X.bP.map λp=>ptr p.1)
 jK:∀ k,aL X.dg k->ar k=.fD
 ea:∀ p ∈ X.bP,dx A w p.1 p.2/\∀ k,p.2.mut p.1 k->ar k=.hC p.1
 nodup:(X.bP.map Prod.fst).Nodup
structure kU (T:Tag->Prop) (A A':a2) (ar χ':Nat->Tag) (w w':al):Prop where
 ax:ao (λk=>T (ar k)) w w'
 ck:¬ T .ck
 eO:∀ k,ar k≠.ck->A k
 old:∀ k,k<w.heap.size->A' k->A k
 same:∀ k,k<w.heap.size->¬ T (ar k)->ar k≠.ck->χ' k=ar k
 lI:∀ k,χ' k≠.ck->A' k
theorem kU.qX {T:Tag->Prop} {ar χ':Nat->Tag} (m:kU T A A' ar χ' w w'):ao A w w':=m.ax.mono λk _ h=>m.eO k λe=>m.ck (by rw [e] at h;exact h)
theorem dx.cM {T:Tag->Prop} {ar χ':Nat->Tag} (m:kU T A A' ar χ' w w') {b:Nat} {p:da} {t:Tag} (h:dx A w b p) (d:∀ k,p.mut b k->ar k=t) (i:¬ T t) (l:t≠.ck):dx A' w' b p/\∀ k,p.mut b k->χ' k=t:=by
 have g:∀ k,p.mut b k->k<w.heap.size:=by
  rintro k (rfl | a | a)
  ·exact h.ak.lt
  ·exact h.own.lt a
  ·exact h.jU.lt a
 have c:∀ k,p.mut b k->χ' k=t:=λk a=>by rw [m.same k (g k a) (by rw [d k a];exact i) (by rw [d k a];exact l),d k a]
 refine ⟨?_,c⟩;have f:=h.ax m.ax (λk a j=>i (by rw [d k a] at j;exact j)) (λk a=>m.eO k λe=>m.ck (by rw [e] at a;exact a));refine ⟨f.ak,f.own,f.jU,h.vs.ax m.qX λk a n=>m.old k a n,h.aP,h.inc,h.node,h.len,h.ko,h.l_,h.ex,h.rO,λk a=>m.lI k (by rw [c k a];exact l)⟩
theorem aY.cM {T:Tag->Prop} {ar χ':Nat->Tag} (m:kU T A A' ar χ' w w') {e sz n cap:Nat} {xs:aw} {t:Tag} (h:aY w e sz a n cap xs) (c:∀ k,aL a k->ar k=t) (d:¬ T t) (g:t≠.ck):aY w' e sz a n cap xs/\∀ k,aL a k->χ' k=t:=
 ⟨h.ax m.ax λk b f=>d (by rw [c k b] at f;exact f),λk b=>by rw [m.same k (h.lt b) (by rw [c k b];exact d) (by rw [c k b];exact g),c k b]⟩
theorem av.cM {T:Tag->Prop} {ar χ':Nat->Tag} (m:kU T A A' ar χ' w w') {b:Nat} {cs:aw} {ty:TypeId} {t:Tag} (h:av w b cs ty) (a:ar b=t) (c:¬ T t) (e:t≠.ck):av w' b cs ty/\χ' b=t:=
 ⟨m.ax.ak h λd=>c (by rw [a] at d;exact d),by rw [m.same b h.lt (by rw [a];exact c) (by rw [a];exact e),a]⟩
theorem gi.ax {A A':a2} {w w':al} {raw:List bF} {xs:List aC} (h:gi A w raw xs) (b:ao A w w') (a:∀ k,k<w.heap.size->A' k->A k):gi A' w' raw xs:=
 ⟨h.1,λi v x aj c=>(h.2 i v x aj c).ax b a⟩
theorem r8.cM {T:Tag->Prop} {A A':a2} {ar χ':Nat->Tag} {w w':al} (m:kU T A A' ar χ' w w') {i j:Nat} {l:cV} (h:r8 A ar w i j l) (e:¬ T (.lane i j)) (f:¬ T (.bt i j)):r8 A' χ' w' i j l:=by obtain ⟨a,b⟩:=dx.cM m h.pair h.tag e (by simp);obtain ⟨c,d⟩:=aY.cM m h.bt h.rb f (by simp);exact ⟨a,b,c,d⟩
theorem kd.cM {T:Tag->Prop} {A A':a2} {ar χ':Nat->Tag} {w w':al} (m:kU T A A' ar χ' w w') {i:Nat} {c:bU} (h:kd A ar w i c) (a:∀ t,h4 i t->¬ T t):kd A' χ' w' i c:=by obtain ⟨e,f⟩:=aY.cM m h.own h.tag (a _ rfl) (by simp);refine ⟨e,f,λj l g=>(h.lane j l g).cM m (a _ rfl) (a _ rfl),h.none,λb d=>?_,h.ds.ax m.qX m.old⟩;exact av.cM m (h.batch b d).1 (h.batch b d).2 (a _ rfl) (by simp)
theorem tZ.cM {T:Tag->Prop} {A A':a2} {ar χ':Nat->Tag} {w w':al} (m:kU T A A' ar χ' w w') {i:Nat} {x:iz} (h:tZ ar w i x) (e:¬ T (.node i)) (f:¬ T (.word i)):tZ χ' w' i x:=by obtain ⟨a,b⟩:=av.cM m h.node.node h.tag e (by simp);obtain ⟨c,d⟩:=av.cM m h.node.words h.ju f (by simp);exact ⟨⟨a,c,h.node.len,h.node.sY,h.node.wf⟩,b,d⟩
def fQ (A:a2) (ar χ':Nat->Tag) (w:al) (k:Nat):Prop:=χ' k≠.ck\/(k<w.heap.size/\A k/\ar k=.ck)
structure Next (A A':a2) (ar χ':Nat->Tag) (w w':al):Prop where
 ax:ao (λk=>ar k≠.ck) w w'
 grow:∀ k,k<w.heap.size->χ' k≠.ck->ar k≠.ck
 iff:∀ k,A' k↔fQ A ar χ' w k
theorem Next.refl {ar:Nat->Tag} (b:∀ k,ar k≠.ck->A k) (c:∀ k,A k->k<w.heap.size) (d:ai w w'):Next A A ar ar w w':=
 ⟨ao.bZ d,λ_ _ h=>h,λk=>⟨λh=>by
  by_cases a:ar k=.ck
  ·exact .inr ⟨c k h,h,a⟩
  ·exact .inl a,λh=>h.elim (b k) λh=>h.2.1⟩⟩
theorem Next.trans {A g j:a2} {ar f o:Nat->Tag} {w w1 n:al} (h:Next A g ar f w w1) (d:Next g j f o w1 n):Next A j ar o w n:=by
 refine ⟨h.ax.trans d.ax λi s a=>h.grow i s a,λk l a=>h.grow k l (d.grow k (fF l h.ax.size) a),λk=>?_⟩
 rw [d.iff k];constructor
 ·rintro (a | ⟨b,e,c⟩)
  ·exact .inl a
  ·rcases (h.iff k).1 e with a | ⟨p,q,r⟩
   ·exact absurd c a
   ·exact .inr ⟨p,q,r⟩
 ·rintro (a | ⟨b,e,c⟩)
  ·exact .inl a
  ·refine .inr ⟨fF b h.ax.size,(h.iff k).2 (.inr ⟨b,e,c⟩),?_⟩;by_cases a:f k=.ck
   ·exact a
   ·exact absurd c (h.grow k b a)
theorem Next.new {A a:a2} {ar c:Nat->Tag} {w w1 b:al} (h:Next A a ar c w w1) (d:ai w1 b):Next A a ar c w b:=⟨h.ax.new d,h.grow,h.iff⟩
theorem bX.move {T:Tag->Prop} {ar χ':Nat->Tag} {X:bl} (h:bX A ar w aM X) (f:ao (λk=>T (ar k)) w w') (d:¬ T .ck)
  (c:∀ k,k<w.heap.size->χ' k≠.ck->ar k≠.ck) (j:∀ k,k<w.heap.size->¬ T (ar k)->ar k≠.ck->χ' k=ar k):kU T A (fQ A ar χ' w) ar χ' w w'/\Next A (fQ A ar χ' w) ar χ' w w':=by
 refine ⟨⟨f,d,h.eO,λk b a=>?_,j,λk i=>.inl i⟩,⟨f.mono λk _ g e=>d (by rw [e] at g;exact g),c,λk=>Iff.rfl⟩⟩
 rcases a with a | a
 ·exact h.eO k (c k b a)
 ·exact a.2.1
theorem bX.new {A:a2} {ar:Nat->Tag} {w w':al} {aM:Nat} {X:bl} (h:bX A ar w aM X) (a:ai w w'):bX A ar w' aM X:=by
 have m:kU (λ_=>False) A A ar ar w w':=⟨a,id,h.eO,λ_ _ h=>h,λ_ _ _ _=>rfl,h.eO⟩;refine ⟨h.eO,λk b=>fF (h.low k b) a.size,ai.ak a h.b9,h.gm,h.nodes.new a,h.jq,λi x e=>(h.node i x e).cM m id id,ai.ak a h.cls,h.eW,
  λi c b=>(h.aP i c b).cM m λ_ _=>id,h.fD.new a,h.jK,λp d=>⟨(h.ea p d).1.new a,(h.ea p d).2⟩,h.nodup⟩
theorem bX.l4 {ar:Nat->Tag} {X:bl} (h:bX A ar w aM X) (d:∀ k,A' k->A k) (e:∀ k,ar k≠.ck->A' k):bX A' ar w aM X:=by
 have m:kU (λ_=>False) A A' ar ar w w:=⟨ao.refl _ _,id,h.eO,λk _=>d k,λ_ _ _ _=>rfl,e⟩;refine ⟨e,λk a=>h.low k (d k a),h.b9,h.gm,h.nodes,h.jq,h.node,h.cls,h.eW,
  λi c a=>(h.aP i c a).cM m λ_ _=>id,h.fD,h.jK,λp b=>⟨(dx.cM m (h.ea p b).1 (h.ea p b).2 id (by simp)).1,(h.ea p b).2⟩,h.nodup⟩
theorem bX.other {S:a2} {ar:Nat->Tag} {X:bl} (h:bX A ar w aM X) (f:ao S w w') (y:∀ k,S k->A k/\ar k=.ck):bX A ar w' aM X:=by
 have q:∀ {b:Nat} {cs:aw} {T:TypeId} {t:Tag},av w b cs T->ar b=t->t≠.ck->av w' b cs T:=λq B z=>f.ak q λd=>z (by rw [<-B];exact (y _ d).2)
 have u:∀ {e sz n cap:Nat} {a:an} {xs:aw} {t:Tag},aY w e sz a n cap xs->(∀ k,aL a k->ar k=t)->t≠.ck->aY w' e sz a n cap xs:=λu B z=>u.ax f λk f d=>z (by rw [<-B k f];exact (y _ d).2)
 have C:∀ {b:Nat} {p:da} {t:Tag},dx A w b p->(∀ k,p.mut b k->ar k=t)->t≠.ck->dx A w' b p:=λC B z=>C.ax f (λk f d=>z (by rw [<-B k f];exact (y _ d).2)) (λk d=>(y k d).1)
 have D:ao A w w':=f.mono λk _ d=>(y k d).1
 refine ⟨h.eO,λk d=>fF (h.low k d) f.size,q h.b9 h.gm (by simp),h.gm,u h.nodes h.jq (by simp),h.jq,λi x E=>?_,q h.cls h.eW (by simp),h.eW,λi c d=>?_,
  u h.fD h.jK (by simp),h.jK,λp s=>⟨C (h.ea p s).1 (h.ea p s).2 (by simp),(h.ea p s).2⟩,h.nodup⟩
 ·have g:=h.node i x E;exact ⟨⟨q g.node.node g.tag (by simp),q g.node.words g.ju (by simp),g.node.len,g.node.sY,g.node.wf⟩,g.tag,g.ju⟩
 ·have d:=h.aP i c d;refine ⟨u d.own d.tag (by simp),d.tag,λj l o=>?_,d.none,λb r=>⟨q (d.batch b r).1 (d.batch b r).2 (by simp),(d.batch b r).2⟩,d.ds.ax D λ_ _ h=>h⟩;have o:=d.lane j l o;exact ⟨C o.pair o.tag (by simp),o.tag,u o.bt o.rb (by simp),o.rb⟩
theorem mG (ls:List cV):∀ r ∈ gE ls,r.length=2:=by intro r a;simp only [gE,cD] at a;obtain ⟨l,_,rfl⟩:=a;rfl
theorem zz (cs:List bU):∀ r ∈ fj cs,r.length=7:=by intro r a;simp only [fj,cD] at a;obtain ⟨l,_,rfl⟩:=a;rfl
theorem lP {ls:List cV} {l:cV} (h:ls[i]?=some l):(gE ls)[i]?=some l.cells:=by simp [gE,h]
theorem tn {cs:List bU} {c:bU} (h:cs[i]?=some c):(fj cs)[i]?=some c.cells:=by simp [fj,h]
theorem q9 (cs:List bU) (i:Nat) (c:bU):(fj cs).set i c.cells=fj (cs.set i c):=by simp [fj]
theorem IF (ls:List cV) (i:Nat) (l:cV):(gE ls).set i l.cells=gE (ls.set i l):=by simp [gE]
theorem IG (ds:List bF) (i:Nat) (d:bF):(fq ds).set i d.cells=fq (ds.set i d):=by simp [fq]
theorem bX.hO {ar:Nat->Tag} {X:bl} (h:bX A ar w aM X) {k:Nat} {c:bU} (a:X.aU[i]?=some c) (aj:c.cells[k]?=some v):w.cell? ⟨X.aT,0+i * 7+k,none⟩=some v:=by rw [gG];exact h.cls.cell (wC (zz _) (tn a) aj)
theorem bl.qN (X:bl) (c:Int):(X.pure.cC c=none/\(c<0\/(X.aU.length:Int)<=c))\/∃ i x,c=(i:Nat)/\X.aU[i]?=some x/\X.pure.cC c=some x.pure:=by
 unfold aB.cC;by_cases b:c<0
 ·exact .inl ⟨by rw [if_pos b],.inl b⟩
 ·rw [if_neg b];cases a:X.aU[c.toNat]? with
  |none=>exact .inl ⟨by simp [bl.pure,a],.inr (by have:=wX.1 a;omega)⟩
  |some x=>exact .inr ⟨c.toNat,x,by omega,a,by simp [bl.pure,a]⟩
theorem s4 {ar:Nat->Tag} {X:bl} (h:bX A ar w aM X) {c:Int} (d:c<0\/(X.aU.length:Int)<=c) :
  ba 44 [ptr aM,.int .i64 c] w λv w'=>v=.pointer none/\w'=w:=by
 refine bc Tryz.func44 ?_;rw [ptr,Ek];refine a9 (λ_=>⟨rfl,rfl⟩) (λa=>?_)
 exact ⟨_,_,_,h.b9.cell rfl,a9 (λ_=>⟨rfl,rfl⟩) (λb=>by omega)⟩
theorem qZ {ar:Nat->Tag} {X:bl} (h:bX A ar w aM X) {x:bU} (a:X.aU[i]?=some x) :
  ba 44 [ptr aM,.int .i64 i] w λv w'=>v=.pointer (some ⟨X.aT,0+i * 7,none⟩)/\w'=w:=by
 refine bc Tryz.func44 ?_;rw [ptr,Ek];have:=cz a;refine a9 (λ_=>by omega) (λb=>⟨_,_,_,h.b9.cell rfl,a9 (λ_=>by omega) (λc=>⟨_,_,_,h.b9.cell rfl,dT (by omega) (by omega) ⟨rfl,rfl⟩⟩)⟩)
theorem BX {ar:Nat->Tag} {X:bl} (h:bX A ar w aM X) (c:Int):ba 43 [ptr aM,.int .i64 c] w λv w'=>v=.bool (X.pure.alive c)/\w'=w:=by
 refine bc Tryz.func43 ?_;rw [ptr,ro];unfold aB.alive;rcases X.qN c with ⟨a,b⟩ | ⟨i,x,rfl,a,b⟩
 ·refine aD (s4 h b) ?_;rintro v w' ⟨rfl,rfl⟩;rw [a];exact ⟨_,rfl,rfl,rfl⟩
 ·refine aD (qZ h a) ?_;rintro v w' ⟨rfl,rfl⟩;rw [b];exact ⟨_,rfl,⟨_,h.hO (k:=0) a rfl,rfl,rfl⟩⟩
theorem GT {ar:Nat->Tag} {X:bl} (h:bX A ar w aM X) (c:Int):ba 63 [ptr aM,.int .i64 c] w λv w'=>v=.int .i64 (X.pure.waiting c)/\w'=w:=by
 refine bc Tryz.func63 ?_;rw [ptr,Q'];unfold aB.waiting;rcases X.qN c with ⟨a,b⟩ | ⟨i,x,rfl,a,b⟩
 ·refine aD (s4 h b) ?_;rintro v w' ⟨rfl,rfl⟩;rw [a];exact ⟨_,rfl,rfl,rfl⟩
 ·refine aD (qZ h a) ?_;rintro v w' ⟨rfl,rfl⟩;rw [b];exact ⟨_,rfl,⟨_,h.hO (k:=4) a rfl,rfl,rfl⟩⟩
theorem BY {ar:Nat->Tag} {X:bl} (h:bX A ar w aM X):ba 38 [ptr aM] w λv w'=>v=.int .i64 X.nodes.length/\w'=w:=by refine bc Tryz.func38 ?_;rw [ptr,Sc];exact ⟨_,_,_,h.b9.cell rfl,rfl,rfl⟩
theorem rI {e cap:Nat} {cn:aw} {n:Nat} (h:aY w e 1 a n cap cn) (aj:cn[i]?=some v) {K:aV->Prop} {z:Int} (au:z=i) (f:∀ bu,w.cell? bu=some v->(∃ g,a=some ⟨g,0,none⟩/\bu=⟨g,0+i * 1,none⟩)->K bu):bB a n z 1 K:=by
 subst au;have o:=cz aj;have k:=h.1;rcases h.2 with ⟨_,b,_⟩ | ⟨g,cur,rfl,c,hle,l,hlen,j⟩
 ·subst b;omega
 ·refine dT (by omega) (by omega) ?_;refine f _ ?_ ⟨g,rfl,by simp⟩;have d:cur[i]?=some v:=by
   rw [<-j] at aj;rw [jX] at aj;split at aj
   ·exact aj
   ·cases aj
  have:=c.cell d;simpa using this
theorem Ae {ar:Nat->Tag} {X:bl} (h:bX A ar w aM X) {x:iz} (a:X.nodes[i]?=some x):ba 39 [ptr aM,.int .i64 i] w λv w'=>v=ptr x.b/\w'=w:=by refine bc Tryz.func39 ?_;rw [ptr,Sr];have:=cz a;refine a9 (λ_=>by omega) (λd=>⟨_,_,_,h.b9.cell rfl,a9 (λ_=>by omega) (λe=>⟨_,_,_,h.b9.cell rfl,?_⟩)⟩);exact rI (v:=ptr x.b) (i:=i) h.nodes (by simp [a]) rfl λbu c _=>⟨_,c,rfl,rfl⟩
theorem bX.setNode {ar:Nat->Tag} {X:bl} (h:bX A ar w aM X) {x:iz} (g:X.nodes[i]?=some x) {n':aH} (l:ao (λk=>k=x.b\/k=x.aK) w w') (q:dK w' x.b x.aK n') :
  ∃ A',Next A A' ar ar w w'/\bX A' ar w' aM { X with nodes:=X.nodes.set i { x with n:=n' } }:=by
 have d:=h.node i x g;obtain ⟨m,aZ⟩:=h.move (χ':=ar) (T:=λt=>t=.node i\/t=.word i) (w':=w') (l.mono λk _ a=>a.elim (λe=>.inl (e▸d.tag)) (λe=>.inr (e▸d.ju))) (by simp) (λ_ _ h=>h) (λ_ _ _ _=>rfl);refine ⟨_,aZ,m.lI,λk a=>fF (a.elim (λa=>h.low k (h.eO k a)) (λa=>a.1)) l.size,?_,h.gm,?_,h.jq,?_,(av.cM m h.cls h.eW (by simp) (by simp)).1,h.eW,λj c a=>(h.aP j c a).cM m ?_,(aY.cM m h.fD h.jK (by simp) (by simp)).1,h.jK,λp o=>dx.cM m (h.ea p o).1 (h.ea p o).2 (by simp) (by simp),h.nodup⟩
 ·have:=(av.cM m h.b9 h.gm (by simp) (by simp)).1;simpa [bl.cells] using this
 ·have:=(aY.cM m h.nodes h.jq (by simp) (by simp)).1;have e:((X.nodes.set i { x with n:=n' }).map λx=>ptr x.b)=X.nodes.map λx=>ptr x.b:=by
   rw [iD];apply kr;intro k;rw [iC];split
   ·rename_i he;subst he;split
    ·simp [g]
    ·rename_i a;exact absurd (cz g) (by simpa using a)
   ·rfl
  rw [e];simpa using this
 ·intro j y f;simp only [iC] at f;split at f
  ·rename_i he;subst he;split at f
   ·simp only [e7] at f;subst f;exact ⟨q,d.tag,d.ju⟩
   ·cases f
  ·rename_i he;exact (h.node j y f).cM m (by simp;exact λe=>he e.symm) (by simp;exact λe=>he e.symm)
 ·intro t r;cases t<;>simp [h4] at r ⊢
end
end Go.Proofs.YtmkljjbioomepaaGreat
