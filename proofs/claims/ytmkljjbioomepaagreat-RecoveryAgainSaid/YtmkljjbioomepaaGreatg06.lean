import Derived.Test.YtmkljjbioomepaaGreatg05
set_option linter.all false
set_option maxHeartbeats 4000000
set_option maxRecDepth 100000
namespace Go.Proofs.YtmkljjbioomepaaGreat
open Go.Proofs.Tryz Go.bJ
variable {A A':a4}{a:ak}{aM i j k:Nat}{v:bf}{w w':an}
section
theorem Fi {M:a4}{b gn ga:Nat}{p:dC}{n:aD}(h:dN M w b p)(R:dX w gn ga n)(fl:M ga)(fk:M gn)(fC:¬ aP p.hl ga)(fw:p.pure.ih) :
  a5 70 [.pointer (some ⟨b,0,none⟩),.pointer (some ⟨gn,0,none⟩)] w (zk M b gn ga p n w):=by
 refine ba Tryz.func70 ?_;rw[Xx];rintro b1 w1 dE dn;obtain⟨b7,bD⟩:=bo dE dn;have fx:w1.heap.size=w.heap.size+1:=by simp_all
 clear dn;have cd:=h.new bD;have e9:=R.new bD;have fa:=h.aj.lt;have fo:=R.node.lt;have eL:=R.words.lt;have eV:∀ k,aP p.hl k->k<w.heap.size:=λk f=>h.kr.lt f
 have dm:∀ k,aP p.dk k->k<w.heap.size:=λk f=>h.own.lt f
 refine⟨_,_,_,cd.aj.cell rfl,eg (λhe=>?_) (λhe=>?_)⟩
 ·have ed:p.a1=[]:=hN (by omega);have q:p.pure.step n=(p.pure,n,none):=Oz ed;refine⟨gq (vs:=bV.cells ⟨0,none,0,0⟩) b7 (by simp[bV.cells]) (bV.single _),?_⟩;intro fP eo;obtain⟨dK,ca⟩:=nw (vs:=bV.cells ⟨0,none,0,0⟩) b7 (by simp[bV.cells]) bD (by omega) eo;refine uW (d:=⟨0,none,0,0⟩) (tT dK) ⟨rfl,⟨0,none,0,0⟩,p,?_,?_,?_,?_,?_,?_,ao.cm ca,.inl rfl,.inl rfl,?_⟩
  ·rw[q];rfl
  ·rw[q]
  ·rw[q];exact R.new ca
  ·grind
  ·rintro k ⟨o,A⟩;cases A
  ·intro M' S H;refine(h.new ca).nB (λk _ f=>?_) H;rcases S k f with f | f | f
   ·grind
   ·exact h.jg k (.inr (.inl f))
   ·exact h.jg k (.inr (.inr f))
  ·rintro k ⟨o,A⟩;cases A
 obtain⟨x,xs,du⟩:∃ x xs,p.a1=x::xs:=by
  cases fr:p.a1 with
  |nil=>grind
  |cons x xs=>grind
 obtain⟨v,vs,eh⟩:∃ v vs,p.raw=v::vs:=by
  cases fr:p.raw with
  |nil=>have:=h.vs.1;grind
  |cons v vs=>grind
 have al:cT M w v x:=h.vs.2 0 v x (by grind) (by grind);have q:=M8 (p:=p.pure) (n:=n) du;refine⟨_,_,_,cd.aj.cell rfl,?_⟩;obtain⟨fK,fN,ef,fc,fe⟩:=cd.own.rd.row (v7 p.raw) (by omega) (i:=0) (r:=v.cells) (by rw[eh];rfl);rw[ef];refine dW (by omega) (by omega) ?_;refine jL (v:=v) (by grind) ?_;rintro e0 fD dG dp;obtain⟨cz,dU⟩:=bo dG dp;have eb:fD.heap.size=w.heap.size+2:=by simp_all
 clear dp;refine⟨gq (vs:=aG.cells v) cz (by simp[aG.cells]) (aG.single v),?_⟩;intro eZ cu;have fy:eZ.heap.size=w.heap.size+2:=by rw[cu,zL,eb]
 obtain⟨dr,db⟩:=nw (vs:=aG.cells v) cz (by simp[aG.cells]) dU (by omega) cu;clear cu cz;have Z:Go.bJ.ai w eZ:=bD.new db;have dL:=ai.aj db b7;refine jL (v:=v) (hB dr) ?_;refine aB (M6 (h.new Z) (R.new Z) (al.aA (ao.cm Z) λ_ _ h=>h)) ?_;rintro r eC ⟨rfl,bC⟩;have bk:=Z.new bC;have cU:=ai.aj bC dL;have dt:=ai.aj bC dr;have fA:=bC.size;have bO:b1≠b:=by omega
 have bX:∀ k,p.mut b k->k<w.heap.size:=λk f=>by
  rcases f with rfl | f | f
  ·grind
  ·grind
  grind
 have eK:dN (λk=>(k<w.heap.size/\M k)\/k=b1) eC b p:=by
  refine(h.nB (λk c9 f=>?_) (λk f=>.inl ⟨bX k f,h.jg k f⟩)).new bk
  grind
 have eF:e0≠b:=by omega
 refine⟨_,rfl,d8 (λdY=>?_) (λaq=>?_)⟩
 ·
  rw[bh dY]at q;refine aB (CW eK (by grind)) ?_;rintro r fE ⟨rfl,dk,gg,U,c4,cZ⟩;have cV:=c4.aj cU bO;refine⟨rfl,gq (vs:=bV.cells ⟨p.pure.refusal x n,none,0,0⟩) cV (by simp[bV.cells]) (bV.single _),?_⟩;intro eD cy;have dR:av eD b1 (bV.cells ⟨p.pure.refusal x n,none,0,0⟩) jz:=by rw[cy];have:=cV.cI (o:=0) (i:=0) (vs:=bV.cells ⟨p.pure.refusal x n,none,0,0⟩);rw[qh (by simp[bV.cells])]at this;exact this
  have c5:ao (λk=>k=b1) fE eD:=by rw[cy];exact ir _ _ _ _ _
  clear cy;have G:ao (λk=>k=b) w eD:=((ao.cm bk).trans c4 λ_ _ h=>h).trans c5 λk f he=>by omega
  refine uW (d:=⟨p.pure.refusal x n,none,0,0⟩) (tT dR) ⟨rfl,⟨p.pure.refusal x n,none,0,0⟩,p.done dk gg,?_,?_,?_,?_,?_,?_,G.mono (λk _ e=>.inl e),.inr ?_,?_,?_⟩
  ·rw[q];rfl
  ·rw[q];rfl
  ·rw[q];refine R.aA G (λe=>?_) (λe=>?_)
   ·have:=av.kp R.node (e▸h.aj);grind
   ·have:=av.kp R.words (e▸h.aj);grind
  ·rw[q];intro y dv;simp only[hM]at dv;subst dv;exact⟨rfl,rfl,bl.nil _ _,λ_=>rfl,by simp,by simp,rfl⟩
  ·rintro k ⟨o,A⟩;cases A
  ·intro M' S H;have cp:=U (λk=>M' k\/k=b1) (λk f=>?_) (λk f=>.inl (H k f))
   ·refine(cp.aA c5 (λk f he=>?_) (λk he=>.inr he)).nB (λk _ f=>.inl f) H;rcases f with f | f | ⟨o,A⟩
    ·omega
    ·have:=cZ k f;omega
    ·cases A
   ·rcases f with f | f
    ·rcases S k f with aR | aR | ⟨o,A⟩
     ·grind
     ·exact .inr aR
     ·cases A
    grind
  ·intro k f;have:=cZ k f;omega
  ·right;rintro k ⟨o,A⟩;cases A
  ·rintro k ⟨o,A⟩;cases A
 ·
  rw[aQ (λaH=>aH aq)]at q;obtain⟨ec,ek⟩:=K8 aq;obtain⟨eG,c3⟩:=yX ek;have dT:=qg c3;have d9:=R.len;have fj:x.v.hI=(x.at_+x.v.count-1) / 8:=rfl;have e':x.v.cL=x.at_:=rfl;have cW:x.at_+x.v.count<=n.words.length:=by
   grind
  have dg:=fw x xs du;have bq:x.v.pieces[p.b4]?=some (x.v.pieces.getD p.b4 (0,0)):=by
   have:p.b4<x.v.pieces.length:=dg
   grind
  have ea:x.v.pieces.length<=1024:=by have:=tm x.v.count.toNat x.v.cL x.v.count;have fL:=dT.2.2.2.2.2.2.2.2.1;show(hT _ _ _).length<=1024;omega
  have Q:=yI x.v.count.toNat x.v.cL x.v.count (by omega) _ (b9 bq);have d_:p.pure.b4=p.b4:=rfl;rw[d_]at q;generalize eO:x.v.pieces.getD p.b4 (0,0)=pc at bq Q q;refine jL (v:=v) (hB dt) ?_;refine aB (Ot _ v (by rw[al.at_];omega) (by rw[al.at_];omega) (by rw[al.count];grind) (by rw[al.count];omega)) ?_;rintro r fG ⟨aW,eW,rfl,b3,c7,d'⟩;rw[al.pieces]at b3;refine⟨_,_,_,rfl,?_⟩;intro dA dq;have b_:Go.bJ.ai fG dA:=by rw[dq];exact cR _
  clear dq;have ab:=(bk.new c7).new b_;have Y:=c7.new b_;have fB:=Y.size;have cj:=eK.new Y;have dB:=R.new ab;have dS:=ai.aj Y cU;have eu:=ai.aj Y dt;have cr:=b3.new b_;have ag:b≠ga:=by intro e;have:=av.kp R.words (e▸h.aj);grind
  have ah:¬ aP p.hl b:=by intro aH;obtain⟨cs,K⟩:=gN h.kr aH;have:=av.kp K h.aj;grind
  obtain⟨ez,eY,de,_,fv⟩:=cr.row (M0 _) (by omega) (M1 bq);have ft:eC.heap.size<=ez:=by
   have:=d' ez (by rw[de];exact⟨eY,rfl⟩)
   grind
  have eP:∀ u,ao (λk=>k=ga\/aP p.hl k) dA u->cn u ⟨ez,eY+p.b4*2,none⟩ 0 [.int .i64 pc.1,.int .i64 pc.2]:=by
   intro u hu;refine k_ λj fO fM=>kh hu ?_ ?_
   ·grind
   grind
  refine⟨λu=>ao (λk=>k=ga\/aP p.hl k) dA u,ao.refl _ _,_,_,_,λu hu=>(hu.aj cj.aj (λaH=>aH.elim ag ah)).cell rfl,
   nG (v:=v) (λu hu=>hB (hu.aj eu (λaH=>aH.elim (λe=>by omega) (λe=>by grind)))) ⟨_,λu hu=>(hu.aj cj.aj (λaH=>aH.elim ag ah)).cell rfl,?_⟩⟩
  rw[de];have eJ:p.b4<x.v.pieces.length:=dg;refine dW (by omega) (by rw[al.pieces];omega) ⟨pc.1,pc.2,λu hu=>by grind,?_⟩;have ee:cT M dA v x:=al.aA (ao.cm ab) λ_ _ h=>h
  have cb:x.words=[]\/gU (λk=>k=ga) v.Words:=by
   rcases al.off with A | A
   ·grind
   ·refine .inr ?_;cases fu:v.Words with
    |none=>trivial
    |some a=>rw[fu]at A;intro aH;exact A (by grind)
  refine aB (M7 dB ec ee cb (by grind) Q.2.1 Q.2.2.1 (by grind) (by omega) cW) ?_;rintro r dx ⟨e5,cF,rfl,bP,ff,bK,L⟩;have cY:=QE R x pc;have b8:=OA (x:=x) (n:=n) Q.2.2.1 Q.2.1;generalize au:exec x pc n=E at bP bK q cY b8;have eQ:=L.size;refine⟨_,_,_,rfl,L.mono (λk _ e=>.inl e),?_⟩;have bm:dN (λk=>(k<w.heap.size/\M k)\/k=b1) dx b p:=by
   refine cj.aA L (λk f he=>?_) (λk he=>.inl ⟨by omega,by grind⟩);rcases f with f | f | f
   ·grind
   ·obtain⟨cs,K⟩:=gN h.own f;have:=av.kp K (he▸R.words);grind
   grind
  have er:=h.lx;obtain⟨inf,fh,ey,ct,fb⟩:=fV (T:=rl) (z:=.int .u64 0) (n:=1) (m:=8) (by kernel_rfl);have b0:=bm.kr;rw[<-ct]at b0;obtain⟨ap,l,cA,di,I,aV,b5⟩:=b0.append (P:=prog) (t:=94) (ty:=94) Tryz.underlying94 fh ey (by rw[ct];rfl) (by omega)
   (s:=e5) (m:=E.2.length) (c:=cF) (news:=us E.2) (by grind[iS]) bP (qm _) (by omega) (by grind)
  rw[ct,zD]at I;refine⟨ap,p.words.length+E.2.length,l,cA,di,(L.mono (λk _ e=>.inl e)).trans aV (λk _ f=>.inr f),?_⟩;have af:av cA b p.cells p2:=aV.aj bm.aj ah;refine⟨⟨_,af.cell rfl⟩,af.frozen,?_⟩;intro cB br;have aZ:ao (λk=>k=b) cA cB:=by rw[br];exact e4 _ _ _ _
  have V:av cB b (p.cells.set 5 (.slice ap (p.words.length+E.2.length) l)) p2:=by rw[br];exact af.setCell _
  clear br;refine⟨_,V.cell rfl,⟨_,V.cell rfl⟩,V.frozen,?_⟩;intro C ad;have a0:ao (λk=>k=b) cB C:=by rw[ad];exact e4 _ _ _ _
  have e6:IntKind.i64.wrap ((p.b4:Int)+1)=((p.b4+1:Nat):Int):=by rw[bI (by omega) (by omega)];rfl
  rw[e6]at ad;have bN:av C b ((p.cells.set 5 (.slice ap (p.words.length+E.2.length) l)).set 4 (.int .i64 (p.b4+1:Nat))) p2:=by rw[ad];exact V.setCell _
  clear ad;have cG:ap=p.hl\/∀ k,aP ap k->eC.heap.size<=k:=by
   rcases b5 with b5 | b5
   ·grind
   ·refine .inr ?_;rintro k ⟨o,A⟩
    grind
  have D:ao (λk=>k=b\/aP p.hl k) dx C:=((aV.mono λk _ f=>.inr f).trans aZ λk _ f=>.inl f).trans a0 λk _ f=>.inl f
  have F:ao (λk=>k=b\/aP p.hl k\/k=ga) dA C:=(L.mono λk _ f=>.inr (.inr f)).trans D λk _ f=>f.elim .inl λe=>.inr (.inl e)
  have bM:dX C gn ga E.1:=by
   refine bK.aA D ?_ ?_
   ·rintro(e | e)
    ·have:=av.kp R.node (e▸h.aj);grind
    ·obtain⟨cs,K⟩:=gN h.kr e;have:=av.kp K R.node;grind
   grind
  have W:av C b1 _ jz:=F.aj dS (by grind);have b2:dN (λk=>((k<w.heap.size/\M k)\/k=b1)\/aP ap k) C b {p with b4:=p.b4+1,words:=p.words++E.2,hl:=ap,pE:=l}:=by
   have bj:∀ k,p.mut b k->k<w.heap.size/\M k:=λk f=>⟨bX k f,h.jg k f⟩
   have ej:∀ k,aP p.dk k->¬ (k=b\/aP p.hl k):=by
    rintro k f (e | e)
    ·obtain⟨cs,K⟩:=gN h.own f;have:=av.kp K (e▸h.aj);grind
    ·obtain⟨cs,K⟩:=gN h.own f;obtain⟨e3,eH⟩:=gN h.kr e
     grind[av.kp]
   have B:∀ k,aP ap k->k≠b:=by
    grind
   refine⟨?_,bm.own.aA D ej,?_,?_,h.aL,h.inc,h.node,h.len,?_,h.nL,?_,?_,?_⟩
   ·grind[dC.cells,List.length_append]
   ·show aX C rl 1 ap (p.words++E.2).length l (us (p.words++E.2));rw[fF];exact(I.aA aZ B).aA a0 B
   ·show et _ C p.raw p.a1;refine h.vs.aA ((ao.cm ab).trans (M:=M) F ?_) ?_
    ·rintro k _ (e | e | e)
     ·exact h.jg k (.inl e)
     ·exact h.jg k (.inr (.inr e))
     grind
    ·rintro k c9 ((f | f) | f)
     ·grind
     ·omega
     ·rcases cG with e | e
      ·exact h.jg k (.inr (.inr (e▸f)))
      grind
   ·grind
   ·grind
   ·intro u hu;rcases i'.1 hu with hu | hu
    ·exact h.ua u hu
    grind
   ·rintro k (e | e | e)
    ·exact .inl (.inl (bj k (.inl e)))
    ·exact .inl (.inl (bj k (.inr (.inl e))))
    grind
  have eR:=F.size;have ae:∀ k,aP ap k->k≠b1:=by
   grind
  have B:∀ k,aP ap k->k≠b:=by
   grind
  have a':ao (λk=>k=b\/aP p.hl k\/k=ga) w C:=(ao.cm ab).trans F λ_ _ h=>h
  refine⟨_,bN.cell rfl,?_⟩;rw[al.pieces];refine bb (λc9=>?_) (λfg=>?_)
  ·
   have da:p.b4+1<x.v.pieces.length:=by omega
   rw[bh da]at q;refine⟨gq (vs:=bV.cells ⟨0,none,0,0⟩) W (by simp[bV.cells]) (bV.single _),?_⟩;intro dy bx;have cP:av dy b1 (bV.cells ⟨0,none,0,0⟩) jz:=by rw[bx];have:=W.cI (o:=0) (i:=0) (vs:=bV.cells ⟨0,none,0,0⟩);rw[qh (by simp[bV.cells])]at this;exact this
   have a8:ao (λk=>k=b1) C dy:=by rw[bx];exact ir _ _ _ _ _
   clear bx;refine uW (d:=⟨0,none,0,0⟩) (tT cP) ⟨rfl,⟨0,none,0,0⟩,{p with b4:=p.b4+1,words:=p.words++E.2,hl:=ap,pE:=l},?_,?_,?_,?_,?_,?_,?_,.inl rfl,?_,?_⟩
   ·rw[q];rfl
   ·rw[q];rfl
   ·rw[q];refine bM.aA a8 (λe=>?_) (λe=>?_)
    ·omega
    ·omega
   ·grind
   ·rintro k ⟨o,A⟩;cases A
   ·intro M' S H;refine(b2.aA a8 (λk f he=>?_) (λk he=>.inl (.inr he))).nB (λk _ f=>?_) H
    ·rcases f with f | f | f
     ·omega
     ·grind
     grind
    ·rcases S k f with f | f | f
     ·grind
     ·exact .inl (.inl ⟨dm k f,h.jg k (.inr (.inl f))⟩)
     grind
   ·exact a'.trans a8 λk f e=>by omega
   ·grind
   ·rintro k ⟨o,A⟩;cases A
  ·
   have c2:¬ p.b4+1<x.v.pieces.length:=by omega
   rw[aQ c2]at q;refine⟨_,_,_,bN.cell rfl,gq (vs:=bV.cells ⟨0,ap,p.words.length+E.2.length,l⟩) W (by simp[bV.cells]) (bV.single _),?_⟩;intro dz bz;have cQ:av dz b1 (bV.cells ⟨0,ap,p.words.length+E.2.length,l⟩) jz:=by rw[bz];have:=W.cI (o:=0) (i:=0) (vs:=bV.cells ⟨0,ap,p.words.length+E.2.length,l⟩);rw[qh (by simp[bV.cells])]at this;exact this
   have N:ao (λk=>k=b1) C dz:=by rw[bz];exact ir _ _ _ _ _
   clear bz;have eS:=N.size;have dd:=b2.aA N (λk f he=>by
    rcases f with f | f | f
    ·omega
    ·grind
    grind) (λk he=>.inl (.inr he))
   refine aB (CW dd (by grind)) ?_;rintro r eA ⟨rfl,dk,gg,U,O,bT⟩;have eT:=O.size;have aO:=O.aj cQ bO;refine⟨rfl,uW (d:=⟨0,ap,p.words.length+E.2.length,l⟩) (tT aO) ⟨gq (vs:=bV.cells ⟨0,ap,p.words.length+E.2.length,l⟩) aO (by grind) (bV.single _),?_⟩⟩;intro bH bA;have cS:av bH b1 (bV.cells ⟨0,ap,p.words.length+E.2.length,l⟩) jz:=by rw[bA];have:=aO.cI (o:=0) (i:=0) (vs:=bV.cells ⟨0,ap,p.words.length+E.2.length,l⟩);rw[qh (by grind)]at this;exact this
   have X:ao (λk=>k=b1) eA bH:=by rw[bA];exact ir _ _ _ _ _
   clear bA;have J:aX bH rl 1 ap (p.words.length+E.2.length) l (us (p.words++E.2)):=
    (((((I.aA aZ B).aA a0 B).aA N ae).aA O B).aA X ae)
   have G:ao (λk=>k=b\/aP p.hl k\/k=ga) w bH:=
    ((a'.trans N λk f e=>by omega).trans O λk _ e=>.inl e).trans X λk f e=>by omega
   refine uW (d:=⟨0,ap,p.words.length+E.2.length,l⟩) (tT cS) ⟨rfl,⟨0,ap,p.words.length+E.2.length,l⟩,dC.done {p with b4:=p.b4+1,words:=p.words++E.2,hl:=ap,pE:=l} dk gg,?_,?_,?_,?_,?_,?_,G,.inr ?_,.inr ?_,?_⟩
   ·rw[q];rfl
   ·rw[q];rfl
   ·rw[q];refine((bM.aA N (λe=>by omega) (λe=>by omega)).aA O (λe=>?_) (λe=>ag e.symm)).aA X (λe=>by omega) (λe=>by omega);have:=av.kp R.node (e▸h.aj);grind
   ·rw[q];intro y dv;simp only[hM]at dv;subst dv;refine⟨rfl,by simp[dC.pure],J.rd,?_,?_,J.le,rfl⟩
    ·intro aH;rcases J.2 with⟨_,e8,_⟩ | ⟨g,cur,e8,_⟩
     ·grind[List.eq_nil_of_length_eq_zero,dC.pure]
     grind
    ·intro u hu;rcases i'.1 hu with hu | hu
     ·exact h.ua u hu
     grind
   ·grind
   ·intro M' S H;have cp:=U (λk=>M' k\/k=b1) (λk f=>?_) (λk f=>.inl (H k f))
    ·refine(cp.aA X (λk f he=>?_) (λk he=>.inr he)).nB (λk _ f=>.inl f) H;rcases f with f | f | ⟨o,A⟩
     ·omega
     ·have:=bT k f;omega
     ·cases A
    ·rcases f with f | f
     ·rcases S k f with aR | aR | ⟨o,A⟩
      ·grind
      ·exact .inr aR
      ·cases A
     grind
   ·intro k f;have:=bT k f;omega
   ·rintro k ⟨o,A⟩;cases A
   grind[gN]
end
section
structure ct where
 pair:cH
 bG:c6
structure a9 where
 alive:Bool
 inc:Int
 az:List ct
 batch:Option ck
 waiting:Nat
 jo:Int
 kL:Int
structure ay where
 lines:Nat
 nodes:List aD
 aF:List a9
 bZ:List cH
structure fb where
 ew:Int
 aL:Int
 node:Int
def ay.cC (F:ay)(c:Int):Option a9:=if c<0 then none else F.aF[c.toNat]?
def ay.nd (F:ay)(i:Int):Option aD:=if i<0 then none else F.nodes[i.toNat]?
def a9.fe (C:a9)(k:Nat)(v:bc):a9:=
 {C with az:=C.az.modify v.node.toNat λl=>⟨{l.pair with a1:=l.pair.a1++[v]},l.bG++[k]⟩}
def a9.fB (C:a9)(k:Nat):a_->a9
 | []=>C
 |v::vs=>(C.fe k v).fB (k+1) vs
def hr (nodes lines:Int):a_->Int
 | []=>0
 |v::vs=>if v.v.valid nodes lines≠0 then v.v.valid nodes lines else hr nodes lines vs
def a9.j4 (C:a9)(vs:a_):a9:=
 {(C.fB 0 vs)with batch:=some (List.replicate vs.length ⟨0,[]⟩),waiting:=vs.length,jo:=IntKind.i64.wrap (C.jo+1),kL:=IntKind.i64.wrap (C.kL+vs.length)}
def ay.eo (F:ay)(c:Int)(C:a9):ay:={F with aF:=F.aF.set c.toNat C}
def ay.post (F:ay)(c:Int)(vs:a_):Int×ay:=
 match F.cC c with
 |none=>(1,F)
 |some C=>
  if C.alive=false then(1,F)else if C.batch.isSome then(3,F)else if vs.length=0 then(1,F)else if vs.length>1024 then(18,F)
  else if hr F.nodes.length F.lines vs≠0 then(hr F.nodes.length F.lines vs,F)
  else(0,F.eo c (C.j4 vs))
def ay.waiting (F:ay)(c:Int):Nat:=match F.cC c with
 |none=>0
 |some C=>C.waiting
def ay.alive (F:ay)(c:Int):Bool:=match F.cC c with
 |none=>false
 |some C=>C.alive
def ay.jo (F:ay)(c:Int):Int:=match F.cC c with
 |none=>0
 |some C=>C.jo
def ay.take (F:ay)(c:Int):Option ck×ay:=
 match F.cC c with
 |none=>(none,F)
 |some C=>if C.alive=false then(none,F)else match C.batch with
  |none=>(none,F)
  |some ds=>if 0<C.waiting then(none,F)else(some ds,F.eo c {C with batch:=none})
def kz (i:Nat):Nat->List ct->List fb
 | _,[]=>[]
 |j,l::ls=>(if 0<l.pair.a1.length then[⟨-1,i,j⟩]else[])++kz i (j+1) ls
def hp:Nat->List a9->List fb
 | _,[]=>[]
 |i,c::cs=>kz i 0 c.az++hp (i+1) cs
def kA:Nat->List cH->List fb
 | _,[]=>[]
 |i,p::cx=>⟨i,p.aL,p.node⟩::kA (i+1) cx
def ay.dd (F:ay):List fb:=hp 0 F.aF++kA 0 F.bZ
def ay.drop (F:ay)(i:Int):Bool×ay:=if i<0\/F.bZ.length<=i.toNat then(false,F)else(true,{F with bZ:=F.bZ.eraseIdx i.toNat})
def ay.iY (F:ay)(i:Nat):Bool×ay:=
 match F.bZ[i]? with
 |none=>(false,F)
 |some p=>match F.nodes[p.node.toNat]? with
  |none=>(false,F)
  |some n=>
   let r:=p.step n;let bE:={F with nodes:=F.nodes.set p.node.toNat r.2.1,bZ:=if r.1.a1.length=0 then F.bZ.eraseIdx i else F.bZ.set i r.1}
   (true,bE)
def a9.comes (C:a9)(j:Nat)(l:ct)(p:cH):Option cN->a9
 |none=>{C with az:=C.az.set j {l with pair:=p} }
 |some d=>{C with az:=C.az.set j ⟨p,l.bG.tail⟩,batch:=C.batch.map λds=>ds.set (l.bG.headD 0) d,waiting:=C.waiting-1}
def ay.step (F:ay)(x:fb):Bool×ay:=
 if 0<=x.ew then F.iY x.ew.toNat
 else if x.ew < -1 then(false,F)
 else match F.cC x.aL with
  |none=>(false,F)
  |some C=>if x.node<0 then(false,F)else match C.az[x.node.toNat]?,F.nodes[x.node.toNat]? with
   |some l,some n=>if l.pair.a1.length=0 then(false,F)else
    let r:=l.pair.step n
    (true,{F with nodes:=F.nodes.set x.node.toNat r.2.1,aF:=F.aF.set x.aL.toNat (C.comes x.node.toNat l r.1 r.2.2)})
   | _,_=>(false,F)
def ay.die (F:ay)(c:Int):Bool×ay:=
 match F.cC c with
 |none=>(false,F)
 |some C=>if C.alive=false then(false,F)else
  (true,{F with bZ:=F.bZ++(C.az.map ct.pair).filter (λp=>decide (0<p.a1.length)),aF:=F.aF.set c.toNat {C with alive:=false,az:=[],batch:=none,waiting:=0} })
structure GQ (i:Nat)(inc:Int)(j:Nat)(len:Nat)(l:ct):Prop where
 aL:l.pair.aL=i
 inc:l.pair.inc=inc
 node:l.pair.node=j
 bG:l.bG.length=l.pair.a1.length
 low:∀ k ∈ l.bG,k<len
 ih:l.pair.ih
def gQ (ls:List ct):Nat:=(ls.map λl=>l.pair.a1.length).sum
structure uH (n:Nat)(i:Nat)(C:a9):Prop where
 inc:0<=C.inc/\C.inc<=59
 az:C.az.length=if C.alive then n else 0
 lane:∀ (j:Nat) (l:ct),C.az[j]?=some l->GQ i C.inc j (C.batch.getD []).length l
 waiting:C.waiting=gQ C.az
 batch:C.waiting<=(C.batch.getD []).length/\(C.batch.getD []).length<=1024
 full:∀ ds,C.batch=some ds->0<ds.length
structure nU (F:ay):Prop where
 lines:1<=F.lines/\F.lines<=256
 nodes:1<=F.nodes.length/\F.nodes.length<=5
 words:∀ n ∈ F.nodes,n.words.length=F.lines*8
 aF:1<=F.aF.length/\F.aF.length<=6
 aL:∀ (i:Nat) (C:a9),F.aF[i]?=some C->uH F.nodes.length i C
 ew:∀ p ∈ F.bZ,0<=p.node/\p.node<F.nodes.length/\p.ih
inductive Tag where
 |cO
 |cw
 |nodes
 |node (i:Nat)
 |word (i:Nat)
 |aF
 |az (c:Nat)
 |lane (c n:Nat)
 |bG (c n:Nat)
 |batch (c:Nat)
 |gH
 |fY (b:Nat)
abbrev bR:=Nat->Tag
def ji (c:Nat):Tag->Prop
 |.az i=>i=c
 |.lane i _=>i=c
 |.bG i _=>i=c
 |.batch i=>i=c
 | _=>False
structure c4 where
 pb:Nat
 p:dC
 bG:c6
 kK:ak
 lj:Nat
def c4.pure (l:c4):ct:=⟨l.p.pure,l.bG⟩
def c4.cells (l:c4):ax:=[.pointer (some ⟨l.pb,0,none⟩),.slice l.kK l.bG.length l.lj]
structure b3 where
 alive:Bool
 inc:Int
 az:List c4
 la:ak
 lc:Nat
 fS:Option Nat
 raw:List bV
 batch:ck
 waiting:Nat
 jo:Int
 kL:Int
def b3.pure (c:b3):a9:=⟨c.alive,c.inc,c.az.map c4.pure,c.fS.map λ_=>c.batch,c.waiting,c.jo,c.kL⟩
def b3.cells (c:b3):ax:=[.bool c.alive,.int .i64 c.inc,.slice c.la c.az.length c.lc,.slice (c.fS.map λb=>⟨b,0,none⟩) c.raw.length c.raw.length,.int .i64 c.waiting,.int .i64 c.jo,.int .i64 c.kL]
structure g4 where
 b:Nat
 aK:Nat
 n:aD
structure bs where
 lines:Nat
 nodes:List g4
 na:ak
 nc:Nat
 aY:Nat
 aF:List b3
 bZ:List (Nat×dC)
 gy:ak
 j1:Nat
def bs.pure (X:bs):ay:=⟨X.lines,X.nodes.map g4.n,X.aF.map b3.pure,X.bZ.map λp=>p.2.pure⟩
def bs.cells (X:bs):ax:=[.int .i64 X.lines,.slice X.na X.nodes.length X.nc,.slice (some ⟨X.aY,0,none⟩) X.aF.length X.aF.length,.slice X.gy X.bZ.length X.j1]
def ptr (b:Nat):bf:=.pointer (some ⟨b,0,none⟩)
def hy (ls:List c4):List ax:=ls.map c4.cells
def gE (cs:List b3):List ax:=cs.map b3.cells
abbrev lK:bY:=110
abbrev im:bY:=102
abbrev lL:bY:=105
abbrev Bf:bY:=92
abbrev o3:bY:=103
abbrev m4:bY:=3
structure uI (A:a4)(aw:bR)(w:an)(i j:Nat)(l:c4):Prop where
 pair:dN A w l.pb l.p
 tag:∀ k,l.p.mut l.pb k->aw k=.lane i j
 bG:aX w m4 1 l.kK l.bG.length l.lj (is (l.bG.map Int.ofNat))
 tw:∀ k,aP l.kK k->aw k=.bG i j
def gT (A:a4)(w:an)(raw:List bV)(xs:ck):Prop:=raw.length=xs.length/\∀ (i:Nat) (v:bV) (x:cN),raw[i]?=some v->xs[i]?=some x->lV A w v x
structure ln (A:a4)(aw:bR)(w:an)(i:Nat)(c:b3):Prop where
 own:aX w lL 2 c.la c.az.length c.lc (hy c.az).flatten
 tag:∀ k,aP c.la k->aw k=.az i
 lane:∀ (j:Nat) (l:c4),c.az[j]?=some l->uI A aw w i j l
 none:c.fS=none->c.raw=[]/\c.batch=[]
 batch:∀ b,c.fS=some b->av w b (gv c.raw).flatten jz/\aw b=.batch i
 ds:gT A w c.raw c.batch
structure wX (aw:bR)(w:an)(i:Nat)(x:g4):Prop where
 node:dX w x.b x.aK x.n
 tag:aw x.b=.node i
 ks:aw x.aK=.word i
structure cj (A:a4)(aw:bR)(w:an)(aM:Nat)(X:bs):Prop where
 fs:∀ k,aw k≠.cO->A k
 low:∀ k,A k->k<w.heap.size
 cw:av w aM X.cells lK
 ha:aw aM=.cw
 nodes:aX w Bf 1 X.na X.nodes.length X.nc (X.nodes.map λx=>ptr x.b)
 kl:∀ k,aP X.na k->aw k=.nodes
 node:∀ (i:Nat) (x:g4),X.nodes[i]?=some x->wX aw w i x
 cls:av w X.aY (gE X.aF).flatten im
 fI:aw X.aY=.aF
 aL:∀ (i:Nat) (c:b3),X.aF[i]?=some c->ln A aw w i c
 gH:aX w o3 1 X.gy X.bZ.length X.j1 (X.bZ.map λp=>ptr p.1)
 kI:∀ k,aP X.gy k->aw k=.gH
 ew:∀ p ∈ X.bZ,dN A w p.1 p.2/\∀ k,p.2.mut p.1 k->aw k=.fY p.1
 nodup:(X.bZ.map Prod.fst).Nodup
structure l7 (T:Tag->Prop)(A A':a4)(aw χ':bR)(w w':an):Prop where
 aA:ao (λk=>T (aw k)) w w'
 cO:¬ T .cO
 fs:∀ k,aw k≠.cO->A k
 old:∀ k,k<w.heap.size->A' k->A k
 same:∀ k,k<w.heap.size->¬ T (aw k)->aw k≠.cO->χ' k=aw k
 m7:∀ k,χ' k≠.cO->A' k
theorem l7.tn {T:Tag->Prop}{aw χ':bR}(m:l7 T A A' aw χ' w w'):ao A w w':=m.aA.mono λk _ h=>m.fs k λe=>m.cO (by grind)
theorem dN.c5 {T:Tag->Prop}{aw χ':bR}(m:l7 T A A' aw χ' w w'){b:Nat}{p:dC}{t:Tag}(h:dN A w b p)(j:∀ k,p.mut b k->aw k=t)(i:¬ T t)(n:t≠.cO):dN A' w' b p/\∀ k,p.mut b k->χ' k=t:=by
 have f:∀ k,p.mut b k->k<w.heap.size:=by
  rintro k (rfl | a | a)
  ·exact h.aj.lt
  ·exact h.own.lt a
  ·exact h.kr.lt a
 have c:∀ k,p.mut b k->χ' k=t:=λk a=>by rw[m.same k (f k a) (by grind) (by grind),j k a]
 refine⟨?_,c⟩;have d:=h.aA m.aA (λk a l=>i (by grind)) (λk a=>m.fs k λe=>m.cO (by grind));refine⟨d.aj,d.own,d.kr,h.vs.aA m.tn λk a g=>m.old k a g,h.aL,h.inc,h.node,h.len,h.lx,h.nL,h.ex,h.ua,λk a=>m.m7 k (by grind)⟩
theorem aX.c5 {T:Tag->Prop}{aw χ':bR}(m:l7 T A A' aw χ' w w'){e sz n cap:Nat}{xs:ax}{t:Tag}(h:aX w e sz a n cap xs)(d:∀ k,aP a k->aw k=t)(c:¬ T t)(g:t≠.cO):aX w' e sz a n cap xs/\∀ k,aP a k->χ' k=t:=
 ⟨h.aA m.aA λk b f=>c (by grind),λk b=>by rw[m.same k (h.lt b) (by grind) (by grind),d k b]⟩
theorem av.c5 {T:Tag->Prop}{aw χ':bR}(m:l7 T A A' aw χ' w w'){b:Nat}{cs:ax}{ty:bY}{t:Tag}(h:av w b cs ty)(c:aw b=t)(a:¬ T t)(e:t≠.cO):av w' b cs ty/\χ' b=t:=
 ⟨m.aA.aj h λd=>a (by grind),by rw[m.same b h.lt (by grind) (by grind),c]⟩
theorem gT.aA {A A':a4}{w w':an}{raw:List bV}{xs:ck}(h:gT A w raw xs)(b:ao A w w')(a:∀ k,k<w.heap.size->A' k->A k):gT A' w' raw xs:=
 ⟨h.1,λi v x al c=>(h.2 i v x al c).aA b a⟩
theorem uI.c5 {T:Tag->Prop}{A A':a4}{aw χ':bR}{w w':an}(m:l7 T A A' aw χ' w w'){i j:Nat}{l:c4}(h:uI A aw w i j l)(d:¬ T (.lane i j))(e:¬ T (.bG i j)):uI A' χ' w' i j l:=by obtain⟨a,bW⟩:=dN.c5 m h.pair h.tag d (by simp);obtain⟨b,c⟩:=aX.c5 m h.bG h.tw e (by simp);exact⟨a,bW,b,c⟩
theorem ln.c5 {T:Tag->Prop}{A A':a4}{aw χ':bR}{w w':an}(m:l7 T A A' aw χ' w w'){i:Nat}{c:b3}(h:ln A aw w i c)(a:∀ t,ji i t->¬ T t):ln A' χ' w' i c:=by obtain⟨e,bW⟩:=aX.c5 m h.own h.tag (a _ rfl) (by simp);refine⟨e,bW,λj l f=>(h.lane j l f).c5 m (a _ rfl) (a _ rfl),h.none,λb d=>?_,h.ds.aA m.tn m.old⟩;exact av.c5 m (h.batch b d).1 (h.batch b d).2 (a _ rfl) (by simp)
theorem wX.c5 {T:Tag->Prop}{A A':a4}{aw χ':bR}{w w':an}(m:l7 T A A' aw χ' w w'){i:Nat}{x:g4}(h:wX aw w i x)(d:¬ T (.node i))(e:¬ T (.word i)):wX χ' w' i x:=by obtain⟨a,bW⟩:=av.c5 m h.node.node h.tag d (by simp);obtain⟨b,c⟩:=av.c5 m h.node.words h.ks e (by simp);exact⟨⟨a,b,h.node.len,h.node.vI,h.node.wf⟩,bW,c⟩
def gV (A:a4)(aw χ':bR)(w:an)(k:Nat):Prop:=χ' k≠.cO\/(k<w.heap.size/\A k/\aw k=.cO)
structure Next (A A':a4)(aw χ':bR)(w w':an):Prop where
 aA:ao (λk=>aw k≠.cO) w w'
 grow:∀ k,k<w.heap.size->χ' k≠.cO->aw k≠.cO
 iff:∀ k,A' k↔gV A aw χ' w k
theorem Next.refl {aw:bR}(b:∀ k,aw k≠.cO->A k)(c:∀ k,A k->k<w.heap.size)(d:ai w w'):Next A A aw aw w w':=
 ⟨ao.cm d,λ_ _ h=>h,λk=>⟨λh=>by
  by_cases a:aw k=.cO
  ·exact .inr ⟨c k h,h,a⟩
  ·exact .inl a,λh=>h.elim (b k) λh=>h.2.1⟩⟩
theorem Next.trans {A g j:a4}{aw f o:bR}{w w1 n:an}(h:Next A g aw f w w1)(c:Next g j f o w1 n):Next A j aw o w n:=by
 refine⟨h.aA.trans c.aA λi s a=>h.grow i s a,λk l a=>h.grow k l (c.grow k (fE l h.aA.size) a),λk=>?_⟩
 rw[c.iff k];constructor
 ·rintro(a | ⟨b,d,e⟩)
  ·exact .inl a
  ·rcases(h.iff k).1 d with a | ⟨p,q,r⟩
   ·grind
   ·exact .inr ⟨p,q,r⟩
 ·rintro(a | ⟨b,d,e⟩)
  ·exact .inl a
  ·refine .inr ⟨fE b h.aA.size,(h.iff k).2 (.inr ⟨b,d,e⟩),?_⟩;by_cases a:f k=.cO
   ·exact a
   ·exact cp e (h.grow k b a)
theorem Next.new {A a:a4}{aw c:bR}{w w1 b:an}(h:Next A a aw c w w1)(d:ai w1 b):Next A a aw c w b:=⟨h.aA.new d,h.grow,h.iff⟩
theorem cj.move {T:Tag->Prop}{aw χ':bR}{X:bs}(h:cj A aw w aM X)(f:ao (λk=>T (aw k)) w w')(d:¬ T .cO)
  (c:∀ k,k<w.heap.size->χ' k≠.cO->aw k≠.cO) (i:∀ k,k<w.heap.size->¬ T (aw k)->aw k≠.cO->χ' k=aw k):l7 T A (gV A aw χ' w) aw χ' w w'/\Next A (gV A aw χ' w) aw χ' w w':=by
 refine⟨⟨f,d,h.fs,λk b a=>?_,i,λk g=>.inl g⟩,⟨f.mono λk _ j e=>d (by grind),c,λk=>Iff.rfl⟩⟩
 rcases a with a | a
 ·exact h.fs k (c k b a)
 grind
theorem cj.new {A:a4}{aw:bR}{w w':an}{aM:Nat}{X:bs}(h:cj A aw w aM X)(a:ai w w'):cj A aw w' aM X:=by
 have m:l7 (λ_=>False) A A aw aw w w':=⟨a,id,h.fs,λ_ _ h=>h,λ_ _ _ _=>rfl,h.fs⟩;refine⟨h.fs,λk b=>fE (h.low k b) a.size,ai.aj a h.cw,h.ha,h.nodes.new a,h.kl,λi x e=>(h.node i x e).c5 m id id,ai.aj a h.cls,h.fI,
  λi c b=>(h.aL i c b).c5 m λ_ _=>id,h.gH.new a,h.kI,λp d=>⟨(h.ew p d).1.new a,(h.ew p d).2⟩,h.nodup⟩
theorem cj.nB {aw:bR}{X:bs}(h:cj A aw w aM X)(d:∀ k,A' k->A k)(e:∀ k,aw k≠.cO->A' k):cj A' aw w aM X:=by
 have m:l7 (λ_=>False) A A' aw aw w w:=⟨ao.refl _ _,id,h.fs,λk _=>d k,λ_ _ _ _=>rfl,e⟩;refine⟨e,λk a=>h.low k (d k a),h.cw,h.ha,h.nodes,h.kl,h.node,h.cls,h.fI,
  λi c a=>(h.aL i c a).c5 m λ_ _=>id,h.gH,h.kI,λp b=>⟨(dN.c5 m (h.ew p b).1 (h.ew p b).2 id (by simp)).1,(h.ew p b).2⟩,h.nodup⟩
theorem cj.other {S:a4}{aw:bR}{X:bs}(h:cj A aw w aM X)(r:ao S w w')(B:∀ k,S k->A k/\aw k=.cO):cj A aw w' aM X:=by
 have o:∀ {b:Nat} {cs:ax} {T:bY} {t:Tag},av w b cs T->aw b=t->t≠.cO->av w' b cs T:=λo C y=>r.aj o λd=>y (by grind)
 have u:∀ {e sz n cap:Nat} {a:ak} {xs:ax} {t:Tag},aX w e sz a n cap xs->(∀ k,aP a k->aw k=t)->t≠.cO->aX w' e sz a n cap xs:=λu C y=>u.aA r λk r d=>y (by grind)
 have z:∀ {b:Nat} {p:dC} {t:Tag},dN A w b p->(∀ k,p.mut b k->aw k=t)->t≠.cO->dN A w' b p:=λz C y=>z.aA r (λk r d=>y (by grind)) (λk d=>(B k d).1)
 have D:ao A w w':=r.mono λk _ d=>(B k d).1
 refine⟨h.fs,λk d=>fE (h.low k d) r.size,o h.cw h.ha (by simp),h.ha,u h.nodes h.kl (by simp),h.kl,λi x E=>?_,o h.cls h.fI (by simp),h.fI,λi c d=>?_,
  u h.gH h.kI (by simp),h.kI,λp s=>⟨z (h.ew p s).1 (h.ew p s).2 (by simp),(h.ew p s).2⟩,h.nodup⟩
 ·have f:=h.node i x E;exact⟨⟨o f.node.node f.tag (by simp),o f.node.words f.ks (by simp),f.node.len,f.node.vI,f.node.wf⟩,f.tag,f.ks⟩
 ·have d:=h.aL i c d;refine⟨u d.own d.tag (by simp),d.tag,λj l g=>?_,d.none,λb q=>⟨o (d.batch b q).1 (d.batch b q).2 (by simp),(d.batch b q).2⟩,d.ds.aA D λ_ _ h=>h⟩;have g:=d.lane j l g;exact⟨z g.pair g.tag (by simp),g.tag,u g.bG g.tw (by simp),g.tw⟩
theorem nk (ls:List c4):∀ r ∈ hy ls,r.length=2:=by intro r a;simp only[hy,cW]at a;obtain⟨l,_,rfl⟩:=a;rfl
theorem zF (cs:List b3):∀ r ∈ gE cs,r.length=7:=by intro r a;simp only[gE,cW]at a;obtain⟨l,_,rfl⟩:=a;rfl
theorem mr {ls:List c4}{l:c4}(h:ls[i]?=some l):(hy ls)[i]?=some l.cells:=by grind[hy]
theorem v8 {cs:List b3}{c:b3}(h:cs[i]?=some c):(gE cs)[i]?=some c.cells:=by grind[gE]
theorem tD (cs:List b3)(i:Nat)(c:b3):(gE cs).set i c.cells=gE (cs.set i c):=by simp[gE]
theorem M9 (ls:List c4)(i:Nat)(l:c4):(hy ls).set i l.cells=hy (ls.set i l):=by simp[hy]
theorem M_ (ds:List bV)(i:Nat)(d:bV):(gv ds).set i d.cells=gv (ds.set i d):=by simp[gv]
theorem cj.iq {aw:bR}{X:bs}(h:cj A aw w aM X){c:b3}(a:X.aF[i]?=some c)(al:c.cells[k]?=some v):w.cell? ⟨X.aY,0+i*7+k,none⟩=some v:=by rw[iZ];exact h.cls.cell (zj (zF _) (v8 a) al)
theorem bs.s' (X:bs)(c:Int):(X.pure.cC c=none/\(c<0\/(X.aF.length:Int)<=c))\/∃ i x,c=(i:Nat)/\X.aF[i]?=some x/\X.pure.cC c=some x.pure:=by
 unfold ay.cC;by_cases a:c<0
 ·grind
 ·rw[aQ a]
  grind[bs.pure,List.getElem?_eq_none_iff]
theorem vM {aw:bR}{X:bs}(h:cj A aw w aM X){c:Int}(d:c<0\/(X.aF.length:Int)<=c) :
  a5 44 [ptr aM,.int .i64 c] w λv w'=>v=.pointer none/\w'=w:=by
 refine ba Tryz.func44 ?_;rw[ptr,Ix];refine bb (λ_=>⟨rfl,rfl⟩) (λa=>?_)
 exact⟨_,_,_,h.cw.cell rfl,bb (λ_=>⟨rfl,rfl⟩) (λb=>by omega)⟩
theorem tr {aw:bR}{X:bs}(h:cj A aw w aM X){x:b3}(a:X.aF[i]?=some x) :
  a5 44 [ptr aM,.int .i64 i] w λv w'=>v=.pointer (some ⟨X.aY,0+i*7,none⟩)/\w'=w:=by
 refine ba Tryz.func44 ?_;rw[ptr,Ix];have:=cS a;refine bb (λ_=>by omega) (λb=>⟨_,_,_,h.cw.cell rfl,bb (λ_=>by omega) (λc=>⟨_,_,_,h.cw.cell rfl,dW (by omega) (by omega) ⟨rfl,rfl⟩⟩)⟩)
theorem Fj {aw:bR}{X:bs}(h:cj A aw w aM X)(c:Int):a5 43 [ptr aM,.int .i64 c] w λv w'=>v=.bool (X.pure.alive c)/\w'=w:=by
 refine ba Tryz.func43 ?_;rw[ptr,XB];unfold ay.alive;rcases X.s' c with⟨a,b⟩ | ⟨i,x,rfl,a,b⟩
 ·refine aB (vM h b) ?_
  grind
 ·refine aB (tr h a) ?_;rintro v w' ⟨rfl,rfl⟩;rw[b];exact⟨_,rfl,⟨_,h.iq (k:=0) a rfl,rfl,rfl⟩⟩
theorem Na {aw:bR}{X:bs}(h:cj A aw w aM X)(c:Int):a5 63 [ptr aM,.int .i64 c] w λv w'=>v=.int .i64 (X.pure.waiting c)/\w'=w:=by
 refine ba Tryz.func63 ?_;rw[ptr,W2];unfold ay.waiting;rcases X.s' c with⟨a,b⟩ | ⟨i,x,rfl,a,b⟩
 ·refine aB (vM h b) ?_
  grind
 ·refine aB (tr h a) ?_;rintro v w' ⟨rfl,rfl⟩;rw[b];exact⟨_,rfl,⟨_,h.iq (k:=4) a rfl,rfl,rfl⟩⟩
theorem Fk {aw:bR}{X:bs}(h:cj A aw w aM X):a5 38 [ptr aM] w λv w'=>v=.int .i64 X.nodes.length/\w'=w:=by refine ba Tryz.func38 ?_;rw[ptr,XA];exact⟨_,_,_,h.cw.cell rfl,rfl,rfl⟩
theorem ue {e cap:Nat}{cx:ax}{n:Nat}(h:aX w e 1 a n cap cx)(al:cx[i]?=some v){K:aU->Prop}{z:Int}(aq:z=i)(d:∀ bF,w.cell? bF=some v->(∃ g,a=some ⟨g,0,none⟩/\bF=⟨g,0+i*1,none⟩)->K bF):bx a n z 1 K:=by
 subst aq;have l:=cS al;have j:=h.1;rcases h.2 with⟨_,f,_⟩ | ⟨g,cur,rfl,b,hle,k,hlen,o⟩
 ·grind
 ·refine dW (by omega) (by omega) ?_;refine d _ ?_ ⟨g,rfl,by simp⟩;have c:cur[i]?=some v:=by
   grind
  have:=b.cell c
  grind
theorem Dc {aw:bR}{X:bs}(h:cj A aw w aM X){x:g4}(c:X.nodes[i]?=some x):a5 39 [ptr aM,.int .i64 i] w λv w'=>v=ptr x.b/\w'=w:=by refine ba Tryz.func39 ?_;rw[ptr,XY];have:=cS c;refine bb (λ_=>by omega) (λd=>⟨_,_,_,h.cw.cell rfl,bb (λ_=>by omega) (λe=>⟨_,_,_,h.cw.cell rfl,?_⟩)⟩);exact ue (v:=ptr x.b) (i:=i) h.nodes (by grind) rfl λbF a _=>⟨_,a,rfl,rfl⟩
theorem cj.setNode {aw:bR}{X:bs}(h:cj A aw w aM X){x:g4}(q:X.nodes[i]?=some x){n':aD}(g:ao (λk=>k=x.b\/k=x.aK) w w')(o:dX w' x.b x.aK n') :
  ∃ A',Next A A' aw aw w w'/\cj A' aw w' aM {X with nodes:=X.nodes.set i {x with n:=n'} }:=by
 have d:=h.node i x q;obtain⟨m,aT⟩:=h.move (χ':=aw) (T:=λt=>t=.node i\/t=.word i) (w':=w') (g.mono λk _ a=>a.elim (λe=>.inl (e▸d.tag)) (λe=>.inr (e▸d.ks))) (by simp) (λ_ _ h=>h) (λ_ _ _ _=>rfl);refine⟨_,aT,m.m7,λk a=>fE (a.elim (λa=>h.low k (h.fs k a)) (λa=>a.1)) g.size,?_,h.ha,?_,h.kl,?_,(av.c5 m h.cls h.fI (by simp) (by simp)).1,h.fI,λj c a=>(h.aL j c a).c5 m ?_,(aX.c5 m h.gH h.kI (by simp) (by simp)).1,h.kI,λp l=>dN.c5 m (h.ew p l).1 (h.ew p l).2 (by simp) (by simp),h.nodup⟩
 ·have:=(av.c5 m h.cw h.ha (by simp) (by simp)).1
  grind[bs.cells]
 ·have:=(aX.c5 m h.nodes h.kl (by simp) (by simp)).1;have e:((X.nodes.set i { x with n:=n' }).map λx=>ptr x.b)=X.nodes.map λx=>ptr x.b:=by
   rw[mM];apply i_
   grind
  grind
 ·intro j y f;simp only[kW]at f;split at f
  ·rename_i he;subst he;split at f
   ·simp only[hM]at f;subst f;exact⟨o,d.tag,d.ks⟩
   grind
  ·rename_i he;exact(h.node j y f).c5 m (by grind) (by grind)
 grind[ji]
end
section
theorem cj.kj {aw:bR}{X:bs}(h:cj A aw w aM X)(a:aw k≠.cO):k<w.heap.size:=h.low k (h.fs k a)
theorem cj.fresh {aw:bR}{X:bs}(h:cj A aw w aM X)(b:w.heap.size<=k):aw k=.cO:=by
 by_cases a:aw k=.cO
 ·exact a
 ·have:=h.kj a;omega
theorem cj.refl {A:a4}{aw:bR}{w w':an}{aM:Nat}{X:bs}(h:cj A aw w aM X)(a:ai w w'):Next A A aw aw w w':=Next.refl h.fs h.low a
def d_ (A:a4)(aw:bR)(w:an)(aM:Nat)(F:ay)(w':an)(K:(a4)->Prop):Prop:=∃ A' χ' a,Next A A' aw χ' w w'/\cj A' χ' w' aM a/\a.pure=F/\K A'
theorem d_.same {aw:bR}{X:bs}(h:cj A aw w aM X)(a:ai w w'){K:(a4)->Prop}(b:K A):d_ A aw w aM X.pure w' K:=⟨A,aw,X,h.refl a,h.new a,rfl,b⟩
def mF (i:Nat)(t:Tag):Prop:=t=.aF\/ji i t
theorem GR (h:i≠j):∀ t,ji j t->¬ mF i t:=by intro t a;cases t<;>simp[ji,mF]at a ⊢<;>omega
theorem bs.yU (X:bs)(i:Nat)(c:b3):({X with aF:=X.aF.set i c}:bs).pure=X.pure.eo i c.pure:=by simp[bs.pure,ay.eo,mM]
theorem cj.r0 {aw χ':bR}{X:bs}(h:cj A aw w aM X){c c':b3}(a:X.aF[i]?=some c)
  (e:ao (λk=>mF i (aw k)) w w') (l:∀ k,k<w.heap.size->χ' k≠.cO->aw k≠.cO) (n:∀ k,k<w.heap.size->¬ mF i (aw k)->aw k≠.cO->χ' k=aw k) (r:∀ k,χ' k≠.cO->k<w'.heap.size)
  (q:av w' X.aY ((gE X.aF).set i c'.cells).flatten im) (b:χ' X.aY=.aF) (g:ln (gV A aw χ' w) χ' w' i c') :
  Next A (gV A aw χ' w) aw χ' w w'/\cj (gV A aw χ' w) χ' w' aM {X with aF:=X.aF.set i c'}:=by
 obtain⟨m,aT⟩:=h.move e (by simp[mF,ji]) l n;have f1:=av.c5 m h.cw h.ha (by simp[mF,ji]) (by simp);have f2:=aX.c5 m h.nodes h.kl (by simp[mF,ji]) (by simp);have f3:=aX.c5 m h.gH h.kI (by simp[mF,ji]) (by simp);refine⟨aT,m.m7,λk a=>?_,?_,f1.2,f2.1,f2.2,λj x o=>(h.node j x o).c5 m (by simp[mF,ji]) (by simp[mF,ji]),?_,b,λj y d=>?_,f3.1,f3.2,λp f=>dN.c5 m (h.ew p f).1 (h.ew p f).2 (by simp[mF,ji]) (by simp),h.nodup⟩
 ·rcases a with a | a
  ·grind
  ·exact fE a.1 e.size
 ·grind[bs.cells]
 ·grind[tD]
 ·simp only[kW]at d;split at d
  ·grind
  ·rename_i he;exact(h.aL j y d).c5 m (GR he)
theorem GS {aY:Nat}{cs:List b3}(h:av w aY (gE cs).flatten im){c:b3}(a:cs[i]?=some c)(b:k<7)(v:bf) :
  av (w.setCell ⟨aY,0+i*7+k,none⟩ v) aY ((gE cs).set i (c.cells.set k v)).flatten im:=by
 rw[iZ];have:=h.setCell (i:=i*7+k) v;rw[zU (zF cs) v (v8 a) b]at this
 grind
open Classical in
theorem Ry {aw:bR}{X:bs}(h:cj A aw w aM X)(c:Int):a5 64 [ptr aM,.int .i64 c] w λv w'=>
  d_ A aw w aM (X.pure.take c).2 w' λA'=>match (X.pure.take c).1 with
   |none=>v=.tuple #[.slice none 0 0,.bool false]
   |some ds=>∃ b raw,v=.tuple #[.slice (some ⟨b,0,none⟩) ds.length ds.length,.bool true]/\av w' b (gv raw).flatten jz/\gT A' w' raw ds/\¬ A' b:=by
 refine ba Tryz.func64 ?_;rw[ptr,X1];rcases X.s' c with⟨d,F⟩ | ⟨i,x,rfl,d,F⟩
 ·refine aB (vM h F) ?_;rintro v w' ⟨rfl,rfl⟩;have g:X.pure.take c=(none,X.pure):=by grind[ay.take]
  refine⟨_,rfl,?_⟩;rw[g];exact d_.same h (ao.refl _ _) rfl
 ·refine aB (tr h d) ?_;rintro v w' ⟨rfl,rfl⟩;refine⟨_,rfl,⟨_,h.iq (k:=0) d rfl,eF (λH=>?_) (λH=>?_)⟩⟩
  ·have g:X.pure.take i=(none,X.pure):=by grind[ay.take,b3.pure]
   rw[g];exact d_.same h (ao.refl _ _) rfl
  have a:=h.aL i x d;refine⟨_,_,_,h.iq (k:=3) d rfl,?_⟩;cases z:x.fS with
  |none=>
   have g:X.pure.take i=(none,X.pure):=by grind[ay.take,b3.pure]
   rw[g];exact d_.same h (ao.refl _ _) rfl
  |some b=>
   refine⟨_,h.iq (k:=4) d rfl,bb (λhw=>?_) (λhw=>?_)⟩
   ·have g:X.pure.take i=(none,X.pure):=by
     grind[ay.take,b3.pure]
    rw[g];exact d_.same h (ao.refl _ _) rfl
   ·have g:X.pure.take i=(some x.batch,X.pure.eo i { x.pure with batch:=none }):=by
     grind[ay.take,b3.pure]
    rw[g];refine⟨_,_,_,h.iq (k:=3) d rfl,⟨⟨_,h.iq (k:=3) d rfl⟩,?_,?_⟩⟩
    ·exact h.cls.frozen
    intro q p;have y:av q X.aY ((gE X.aF).set i (x.cells.set 3 (.slice none 0 0))).flatten im:=by rw[p];exact GS h.cls d (by omega) _
    have r:ao (λk=>k=X.aY) w' q:=by rw[p];exact e4 _ _ _ _
    clear p;let χ':bR:=λk=>if aw k=.batch i then .cO else aw k
    have n:∀ k,χ' k≠.cO->aw k≠.cO/\aw k≠.batch i/\χ' k=aw k:=by
     grind
    have C:=a.batch b z;have E:∀ k,aw k≠.batch i->χ' k=aw k:=λk u=>by grind
    have f:ao (λk=>aw k=.aF) w' q:=r.mono λk _ e=>by rw[e];exact h.fI
    obtain⟨m,_⟩:=h.move (χ':=χ') (T:=λt=>t=.aF\/t=.batch i) (w':=q) (f.mono λk _ e=>.inl e) (by simp) (λk _ o=>(n k o).1) (λk _ u _=>E k λe=>u (.inr e));have f1:=aX.c5 m a.own a.tag (by simp) (by simp);obtain⟨aT,G⟩:=h.r0 (χ':=χ') (w':=q) (c':={x with fS:=none,raw:=[],batch:=[]}) d (f.mono λk _ e=>.inl e) (λk _ o=>(n k o).1) (λk _ u _=>E k λe=>u (.inr (by rw[e];rfl)))
     (λk o=>fE (h.kj (n k o).1) r.size) y (by rw[E _ (by rw[h.fI];simp),h.fI])
     ⟨f1.1,f1.2,λj l J=>(a.lane j l J).c5 m (by simp) (by simp),λ_=>⟨rfl,rfl⟩,(λ_ I=>nomatch I),⟨rfl,λ_ _ _ o=>by grind⟩⟩
    have D:¬ gV A aw χ' w' b:=by
     rintro(o | ⟨_,_,o⟩)
     ·grind
     grind
    have B:av q b (gv x.raw).flatten jz:=f.aj C.1 (by grind);refine⟨_,χ',_,aT,G,?_,b,x.raw,?_,B,a.ds.aA (f.mono λk _ e=>h.fs k (by grind)) λk K s=>?_,D⟩
    ·grind[bs.yU,b3.pure]
    ·have:=a.ds.1
     grind
    ·rcases s with s | s
     ·exact h.fs k (n k s).1
     grind
theorem ln.Jo {T:Tag->Prop}{aw χ':bR}(m:l7 T A A' aw χ' w w'){c:b3}{l':c4}(h:ln A aw w i c)(f:∀ t,ji i t->T t->t=.az i\/t=.lane i j\/t=.bG i j)
  (n:aX w' lL 2 c.la c.az.length c.lc ((hy c.az).set j l'.cells).flatten) (d:∀ k,aP c.la k->χ' k=.az i) (o:uI A' χ' w' i j l'):ln A' χ' w' i {c with az:=c.az.set j l'}:=by
 refine⟨?_,d,λk y g=>?_,h.none,λb l=>?_,h.ds.aA m.tn m.old⟩
 ·grind[M9]
 ·simp only[kW]at g;split at g
  ·grind
  ·rename_i he;refine(h.lane k y g).c5 m (λa=>?_) (λa=>?_)
   ·rcases f (.lane i k) rfl a with e | e | e
    ·cases e
    ·grind
    grind
   ·rcases f (.bG i k) rfl a with e | e | e
    ·cases e
    ·cases e
    grind
 ·refine av.c5 m (h.batch b l).1 (h.batch b l).2 (λa=>?_) (by simp);rcases f (.batch i) rfl a with e | e | e<;>cases e
theorem jE {α:Type}{l:List α}{x:α}(h:l[i]?=some x):l.set i x=l:=by
 apply i_
 grind
def iU (i j n:Nat)(t:Tag):Prop:=t=.lane i j\/t=.word n
theorem cj.Jq {aw χ':bR}{X:bs}(h:cj A aw w aM X){i j n:Nat}{c:b3}{l:c4}{y:g4}(g:X.aF[i]?=some c)(D:c.az[j]?=some l)(H:X.nodes[n]?=some y)
  (C:ao (λk=>iU i j n (aw k)) w w') (F:∀ k,k<w.heap.size->χ' k≠.cO->aw k≠.cO) (B:∀ k,k<w.heap.size->aw k≠.lane i j->χ' k=aw k) (E:∀ k,χ' k≠.cO->k<w'.heap.size)
  {n':aD} (x:dX w' y.b y.aK n') {p':dC} (r:dN (gV A aw χ' w) w' l.pb p') (G:∀ k,p'.mut l.pb k->χ' k=.lane i j) :
  Next A (gV A aw χ' w) aw χ' w w'/\cj (gV A aw χ' w) χ' w' aM {X with nodes:=X.nodes.set n {y with n:=n'},aF:=X.aF.set i {c with az:=c.az.set j {l with p:=p'} } }:=by
 obtain⟨m,aT⟩:=h.move (T:=iU i j n) C (by simp[iU]) F (λk u x _=>B k u λe=>x (.inl e));have f1:=av.c5 m h.cw h.ha (by simp[iU]) (by simp);have f2:=aX.c5 m h.nodes h.kl (by simp[iU]) (by simp);have f3:=aX.c5 m h.gH h.kI (by simp[iU]) (by simp);have f4:=av.c5 m h.cls h.fI (by simp[iU]) (by simp);have a:=h.node n y H;have d:=h.aL i c g;refine⟨aT,m.m7,λk g=>?_,?_,f1.2,?_,f2.2,?_,?_,f4.2,λq z aq=>?_,f3.1,f3.2,λp r=>dN.c5 m (h.ew p r).1 (h.ew p r).2 (by simp[iU]) (by simp),h.nodup⟩
 ·rcases g with g | g
  ·grind
  ·exact fE g.1 C.size
 ·grind[bs.cells]
 ·grind[ptr,List.map_set,jE]
 ·intro q z aq;simp only[kW]at aq;split at aq
  ·rename_i he;subst he;split at aq
   ·simp only[hM]at aq;subst aq;exact⟨x,by rw[B _ a.node.node.lt (by rw[a.tag];simp)];exact a.tag,by rw[B _ a.node.words.lt (by rw[a.ks];simp)];exact a.ks⟩
   grind
  ·rename_i he;exact(h.node q z aq).c5 m (by simp[iU]) (by grind[iU])
 ·grind[gE,List.map_set,jE,b3.cells]
 ·simp only[kW]at aq;split at aq
  ·rename_i he;subst he;split at aq
   ·simp only[hM]at aq;subst aq;have f5:=aX.c5 m d.own d.tag (by simp[iU]) (by simp);have o:=d.lane j l D;refine d.Jo m (λt f s=>?_) ?_ f5.2 ?_
    ·rcases s with e | e
     ·grind
     ·rw[e]at f;cases f
    ·have e:(hy c.az).set j ({l with p:=p'}:c4).cells=hy c.az:=jE (by rw[mr D];rfl)
     grind
    ·have f6:=aX.c5 m o.bG o.tw (by simp[iU]) (by simp);exact⟨r,G,f6.1,f6.2⟩
   grind
  ·rename_i he;refine(h.aL q z aq).c5 m (λt f s=>?_);rcases s with e | e
   ·rw[e]at f;exact he f
   ·rw[e]at f;cases f
end
end Go.Proofs.YtmkljjbioomepaaGreat
