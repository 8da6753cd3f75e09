import Derived.Test.YtmkljjbioomepaaGreata35
import Derived.Test.YtmkljjbioomepaaGreata23
set_option linter.all false
set_option maxHeartbeats 4000000
set_option maxRecDepth 100000
namespace Go.Proofs.YtmkljjbioomepaaGreat
open Go.Proofs.Tryz Go.b8
variable {A A':cd} {C:cT} {E:Env} {F:a9} {L i j m cW q dZ:Nat} {qm:Conv} {d:a_} {l:eM} {n x:bt} {p:a6} {dA:eI} {v:bn} {vs im:List bn} {ws:bR}
section
open iH
theorem MA {α:Type} {k:Nat} (J:0<k):∀ {mD:List (List α)} {q:Nat} {v:α},(∀ b ∈ mD,b.length=k)->mD.flatten[q]?=some v->∃ (i:Nat) (b:List α),mD[i]?=some b/\i * k<=q/\b[q - i * k]?=some v
 | [],q,v,_,h=>by simp at h
 |b::mD,q,v,ak,h=>by
  have au:=ak b iA;rw [l7] at h;by_cases aM:q<b.length
  ·rw [nA aM] at h;exact ⟨0,b,rfl,by omega,by simpa using h⟩
  ·rw [nB (by omega)] at h;obtain ⟨i,c,af,al,aL⟩:=MA J (λc ab=>ak c (jz _ ab)) h;refine ⟨i+1,c,by simpa using af,by rw [nz];omega,?_⟩;rw [nz,<-aL];congr 1;omega
theorem H9 {α:Type} {k:Nat}:∀ {mD:List (List α)} {i r:Nat} {b:List α} {v:α},(∀ b ∈ mD,b.length=k)->mD[i]?=some b->b[r]?=some v->mD.flatten[i * k+r]?=some v
 | [],i,r,b,v,_,h,_=>by simp at h
 |c::mD,0,r,b,v,ak,h,aA=>by simp at h;subst h;rw [l7,nA (by have:=dy aA;omega),Me,l6];exact aA
 |c::mD,i+1,r,b,v,ak,h,aA=>by have au:=ak c iA;rw [l7,nB (by rw [nz];omega),au,nz,show i * k+k+r - k=i * k+r by omega];exact H9 (λc ab=>ak c (jz _ ab)) (by simpa using h) aA
theorem lk.before {cf:Nat->Option a_} (h:lk C vs cf) (au:C.aU[j]?=some l) (aM:l.cP=q::dA) {bX:bn} (aK:dZ<q) (aw:vs[dZ]?=some bX) (aj:bX.node.toNat=j):∃ d,cf dZ=some d:=by
 cases aC:cf dZ with
 |some d=>exact ⟨d,rfl⟩
 |none=>
  exfalso;obtain ⟨EA,l',hl,hm⟩:=h.left dZ (dy aw) aC;obtain ⟨t,aZ⟩:=hn.1 hm;obtain ⟨v,bs,_,dd,_⟩:=(h.lane EA l' hl).at_ t dZ aZ
  rw [aw] at bs;cases bs;rw [<-dd,aj] at hl;rw [au] at hl;cases hl;have GC:=(h.lane j l au).Nt;rw [aM,WM] at GC;rw [aM] at hm;rcases iF.1 hm with e | e
  ·omega
  ·have:=GC.1 dZ e;omega
section
variable {E:Env} {l:List a6}
theorem Ni (h:(jV E l)[q]?=some v):∃ m,m+1<E.n/\v.node=((m+1:Nat):Int)/\((∃ p ∈ l,v=jO (m+1) p)\/(v=dV (m+1) 32 [fl E]/\∀ p ∈ l,∃ dZ,dZ<q/\(jV E l)[dZ]?=some (jO (m+1) p))):=by
 have ak:∀ b ∈ (List.range (E.n - 1)).map (λm=>l.map (jO (m+1))++[dV (m+1) 32 [fl E]]),b.length=l.length+1:=λb ak=>by obtain ⟨m,_,rfl⟩:=eQ.1 ak;simp
 obtain ⟨i,b,af,al,aL⟩:=MA (by omega) ak h;have aD:=dy af;simp only [jS,ui] at aD;have yf:=af;rw [gV,rM aD] at af;simp only [xM,iX] at af;subst af;refine ⟨i,by omega,?_⟩;by_cases aA:q - i * (l.length+1)<l.length
 ·rw [nA (by simpa using aA),gV] at aL;obtain ⟨p,ar,rfl⟩:=sY.1 aL;exact ⟨rfl,.inl ⟨p,dn ar,rfl⟩⟩
 ·rw [nB (by simpa using aA)] at aL;have:=dy aL;simp only [jS,Ii] at this;have iN:q - i * (l.length+1) - (l.map (jO (i+1))).length=0:=by simp only [jS];omega
  rw [iN] at aL;simp only [FB,iX] at aL;subst aL;refine ⟨rfl,.inr ⟨rfl,λp ar=>?_⟩⟩;obtain ⟨r,O9⟩:=hn.1 ar;have ik:=dy O9;refine ⟨i * (l.length+1)+r,by omega,H9 ak yf ?_⟩;rw [nA (by simpa using ik),gV,O9];rfl
theorem Nj (h:(kn E l)[q]?=some v):v.node=0/\((q=0/\v=dV 0 32 [fl E])\/(0<q/\∃ p ∈ l,v=jO 0 p)):=by
 cases q with
 |zero=>simp [kn] at h;subst h;exact ⟨rfl,.inl ⟨rfl,rfl⟩⟩
 |succ q=>unfold kn at h;rw [zg,gV] at h;obtain ⟨p,ar,rfl⟩:=sY.1 h;exact ⟨rfl,.inr ⟨by omega,p,dn ar,rfl⟩⟩
theorem aob {p':a6} (h:jO m p=jO cW p') (ar:0<=p.b5) (hA:0<=p'.b5):m=cW/\b9 p=b9 p':=by
 have af:(m:Int)=cW:=congrArg bn.node h;have al:p.b5 * 8=p'.b5 * 8:=congrArg bn.at_ h;refine ⟨by omega,?_⟩;show p.b5.toNat=p'.b5.toNat
 have:p.b5=p'.b5:=by omega
 rw [this]
theorem ZX (ar:96<=p.b5):jO m p≠dV cW 32 [fl E]:=λh=>by have al:p.b5 * 8=32:=congrArg bn.at_ h;omega
theorem azz {a:Int} (h:dV m a ws=dV cW a ws):m=cW:=by have af:(m:Int)=cW:=congrArg bn.node h;omega
theorem ZY (aI:di E) (ar:p ∈ cA E) (h:A.cO m (b9 p)=2):vr E A (jO m p):=by have au:=aI.pl ar;refine ⟨λcW p' hA e=>?_,λcW e=>absurd e (ZX (by omega))⟩;have hl:=aI.pl hA;obtain ⟨a,b⟩:=aob e (by omega) (by omega);rw [<-a,<-b];exact h
theorem ZZ (aI:di E) (h:A.gq m=true):vr E A (dV m 32 [fl E]):=by refine ⟨λcW p' hA e=>absurd e.symm (ZX (by have:=aI.pl hA;omega)),λcW e=>?_⟩;rw [<-azz e];exact h
theorem FL (aI:di E) (hm:m<E.n) (ar:p ∈ cA E):n7 E.n E.L (jO m p):=by have au:=aI.pl ar;have aj:=aI.e.n;have bE:=aI.e.L;exact zd aj.2 hm (by omega) (by omega) (by show 1<=8;omega) (by show 8<=1000;omega) (by show p.b5 * 8+(8:Int)<=_;omega)
theorem FM (aI:di E) (hm:m<E.n):n7 E.n E.L (dV m 32 [fl E]):=by have aj:=aI.e.n;have bE:=aI.e.L;exact zd aj.2 hm (by omega) (by omega) (by simp) (by simp) (by simp;omega)
end
theorem aaq {p:fx} {a:Nat} (fO:jW p) (fP:p.bN=dV m a ws::im) (aA:p.refusal (dV m a ws) x=0) (bc:a % 8=0) (aC:p.words=[]) (au:a+ws.length<=x.words.length) (hj:ws.length<=8):p.step x=(p.done,x.write a ws,some ⟨0,[]⟩):=by
 obtain ⟨af,al,_,_,aL⟩:=Se fO fP aA bc aC au;have iN:p.cu=0:=by omega
 rw [iN] at al aL;rcases aL with aL | ⟨_,ca,c9⟩
 ·omega
 ·have hw:(ws.drop (8 * 0)).take 8=ws:=by rw [Nat.mul_zero,Mg,ny hj]
  rw [hw] at al;exact Prod.ext ca (Prod.ext al c9)
section
variable {E:Env} {A:cd} {cm:List bt} {l:List a6}
theorem Z0 (aI:di E) (cC:qi E A cm) (bE:iI E A) (bc:nD E A) (B7:∀ p ∈ l,p ∈ cA E) (aw:(jV E l)[q]?=some v) (c_:v.node.toNat=j) (ao:cm[j]?=some x) (Tk:∀ (dZ:Nat) (bX:bn),dZ<q->(jV E l)[dZ]?=some bX->bX.node.toNat=j->vr E A bX) (au:∀ p ∈ cA E,p ∈ l\/A.cO j (b9 p)=2) :
  ∃ (a:Nat) (ws:bR) (A':cd),v=dV j (a:Int) ws/\a % 8=0/\ws.length<=8/\a+ws.length<=x.words.length/\qi E A' (cm.set j (x.write a ws))/\iI E A'/\vr E A' v/\fN E A A'/\(A'.gU,A'.fA)=(A.gU,A.fA)/\A'.eo=A.eo/\(∀ m l',A'.cO m l'=A.cO m l'\/1<=m):=by
 obtain ⟨m,hm,jb,ab⟩:=Ni aw;have Ka:j=m+1:=by rw [<-c_,jb];simp
 subst Ka;have gj:=cC.mem _ x ao;have wq:=gj.ba.len;have BW:=aI.wA;rcases ab with ⟨p,ar,rfl⟩ | ⟨rfl,sn⟩
 ·have kV:=B7 p ar;have hl:=aI.pl kV;refine ⟨b9 p * 8,oE p,A.lJ (m+1) (b9 p) 2,?_,by omega,by show 8<=8;omega,by show b9 p * 8+8<=_;omega,cC.jh ao (gj.new aI kV) λcW g4 y az=>?_,bE.p2 (by omega) (λ_=>by omega) (λe=>by omega) (λ_=>bc) (λ_ e=>by omega) (λ_ _=>rfl),ZY aI kV ?_,MI λ_=>rfl,rfl,rfl,λk l'=>?_⟩
  ·show dV (m+1) (p.b5 * 8) (oE p)=_;rw [show p.b5 * 8=((b9 p * 8:Nat):Int) by omega]
  ·exact az.same (λp' _=>by simp [cd.lJ,g4]) rfl rfl rfl rfl (λ_=>rfl)
  ·simp [cd.lJ]
  ·simp only [cd.lJ];split
   ·rename_i g;exact .inr (by omega)
   ·exact .inl rfl
 ·refine ⟨32,[fl E],A.tX (m+1),rfl,by omega,by simp,by simp;omega,cC.jh ao (gj.Ji aI) λcW g4 y az=>?_,bE.Ji bc (λe=>by omega) (λ_ p ar=>?_),ZZ aI (by simp [cd.tX]),Zb,rfl,rfl,λk l'=>.inl rfl⟩
  ·exact az.same (λp' _=>rfl) rfl (by simp [cd.tX,g4]) rfl rfl (λ_=>rfl)
  ·rcases au p ar with g | g
   ·obtain ⟨dZ,af,al⟩:=sn p g;exact (Tk dZ _ af al (by simp [jO,dV])).1 _ p ar rfl
   ·exact g
theorem Z1 (aI:di E) (cC:qi E A cm) (bE:iI E A) (bc:nD E A) (ak:C2 E A) (B7:∀ p ∈ l,p ∈ cA E) (aw:(kn E l)[q]?=some v) (c_:v.node.toNat=j) (ao:cm[j]?=some x) (Tk:∀ (dZ:Nat) (bX:bn),dZ<q->(kn E l)[dZ]?=some bX->bX.node.toNat=j->vr E A bX) :
  ∃ (a:Nat) (ws:bR) (A':cd),j=0/\v=dV j (a:Int) ws/\a % 8=0/\ws.length<=8/\a+ws.length<=x.words.length/\qi E A' (cm.set j (x.write a ws))/\iI E A'/\vr E A' v/\fN E A A'/\(A'.gU,A'.fA)=(A.gU,A.fA)/\A'.eo=A.eo:=by
 obtain ⟨jb,ab⟩:=Nj aw;have tm:j=0:=by rw [<-c_,jb];rfl
 subst tm;have gj:=cC.mem _ x ao;have wq:=gj.ba.len;have BW:=aI.wA;rcases ab with ⟨_,rfl⟩ | ⟨aN,p,ar,rfl⟩
 ·refine ⟨32,[fl E],A.tX 0,rfl,rfl,by omega,by simp,by simp;omega,cC.jh ao (gj.Ji aI) λcW g4 y az=>?_,bE.Ji bc (λ_=>ak) (λe=>by omega),ZZ aI (by simp [cd.tX]),Zb,rfl,rfl⟩;exact az.same (λp' _=>rfl) rfl (by simp [cd.tX,g4]) rfl rfl (λ_=>rfl)
 ·have kV:=B7 p ar;have hl:=aI.pl kV;have vW:=(Tk 0 (dV 0 32 [fl E]) aN rfl rfl).2 0 rfl;refine ⟨b9 p * 8,oE p,A.lJ 0 (b9 p) 2,rfl,?_,by omega,by show 8<=8;omega,by show b9 p * 8+8<=_;omega,cC.jh ao (gj.new aI kV) λcW g4 y az=>?_,bE.p2 (by omega) (λe=>by omega) (λe=>by omega) (λ_=>bc) (λ_ _=>vW) (λe=>by omega),ZY aI kV ?_,MI λ_=>rfl,rfl,rfl⟩
  ·show dV 0 (p.b5 * 8) (oE p)=_;rw [show p.b5 * 8=((b9 p * 8:Nat):Int) by omega]
  ·exact az.same (λp' _=>by simp [cd.lJ,g4]) rfl rfl rfl rfl (λ_=>rfl)
  ·simp [cd.lJ]
end
end
section
open iH
section
variable {E:Env} {cm:List bt} {i m:Nat} {x k5:bt}
end
end
section
open iH
theorem hx.pl {j:eP} (h:hx E i j) (ar:p ∈ j.writes):p.b5=((p.b5.toNat:Nat):Int)/\96<=p.b5.toNat/\p.b5.toNat<E.L:=by obtain ⟨l,e,af,al⟩:=h.line p ar;rw [e,j_];exact ⟨rfl,af,al⟩
end
section
open iH
section
variable {E:Env} {i:Nat} {j:eP}
theorem alX (h:hx E i j) (aj:1<=E.n) (aw:(f9 j)[q]?=some v):(∃ p ∈ j.writes,j.writes[q]?=some p/\v=NC (p.b5 * 8) p.Head (ii p.Head i))\/∃ s ∈ j.reads,v=VP (s.b5 * 8):=by
 rw [h.aes aj] at aw;by_cases aM:q<j.writes.length
 ·rw [nA (by simpa using aM),gV,cp aM] at aw;cases aw;exact .inl ⟨_,qS aM,cp aM,rfl⟩
 ·rw [nB (by simpa using aM),gV] at aw;cases aX:j.reads[q - (j.writes.map λp=>NC (p.b5 * 8) p.Head (ii p.Head i)).length]? with
  |none=>rw [aX] at aw;cases aw
  |some s=>rw [aX] at aw;cases aw;exact .inr ⟨s,dn aX,rfl⟩
end
end
section
open iH
section
variable {n L:Nat} {p:fx} {x:bt} {im:List bn}
end
section
variable {E:Env} {i:Nat} {j:eP}
end
end
section
open iH
section
variable {E:Env} {cm:List bt} {i m q:Nat} {p:fx} {x:bt} {v:bn} {cf:Nat->Option a_} {D:List a_}
end
end
section
open iH
def oY (l:eM):Nat:=(l.pair.bN.map λv=>v.v.pieces.length).sum - l.pair.cu
def oX (C:cT):Nat:=(C.aU.map oY).sum
theorem RJ:∀ {l:eI} {i:Nat} {a b:Nat},l[i]?=some a->(l.set i b).sum+a=l.sum+b
 | [],i,a,b,h=>by simp at h
 |x::l,0,a,b,h=>by simp only [FB,iX] at h;subst h;simp only [Q0,qR];omega
 |x::l,i+1,a,b,h=>by have:=RJ (l:=l) (i:=i) (a:=a) (b:=b) (by simpa using h);simp only [WP,qR];omega
theorem ajP {p:fx} (fO:jW p) (aA:∀ v im,p.bN=v::im->p.refusal v n=0) {l':eM} (au:l.pair=p) (hl:l'.pair=(p.step n).1) (aw:p.bN≠[]):oY l'<oY l:=by
 obtain ⟨v,im,fP⟩:=Fz aw;have dw:=fO.nr v im fP;unfold oY;rw [au,hl,L4 fP (aA v im fP),fP];simp only [kQ,qR];split
 ·rename_i aK;show ((v::im).map _).sum - (p.cu+1)<_;simp only [kQ,qR];omega
 ·show (p.bN.tail.map _).sum - 0<_;rw [fP];simp only [List.tail_cons];omega
def MN (p:fx):Prop:=∀ v im,p.bN=v::im->v.kind=2->p.words=[]
theorem ak8 {p:fx} (aC:MN p):MN (p.step n).1:=by
 unfold fx.step;cases aw:p.bN with
 |nil=>exact aC
 |cons x xs=>
  simp only;split
  ·exact λ_ _ _ _=>rfl
  ·split
   ·intro v im e J;have e:x::xs=v::im:=e;cases e;show p.words++(exec x _ n).2=[];rw [aC x xs aw J];unfold exec;rw [if_neg (by omega),if_pos J];rfl
   ·exact λ_ _ _ _=>rfl
def aC0 (vs:List bn) (cf:Nat->Option a_):Prop:=∀ q d,cf q=some d->∃ v,vs[q]?=some v/\d.code=0/\(d.words.length:Int)=v.v.ow
def mO (C:cT):Prop:=∀ (k:Nat) (l:eM),C.aU[k]?=some l->l.pair.bN=[]
def aE3 (n:Nat):Nat->Nat
 | 0=>1
 | 1=>2
 | 2=>3
 | 3=>4
 | 4=>if n=1 then 4 else 5
 | 6=>if n=1 then 4 else 5
 | _=>0
end
section
open iH
def AE:Nat->Nat
 | 0=>106
 | 1=>70
 | 2=>65
 | 3=>13
 | 8=>700
 | _=>0
def cost (vs:List bn):Nat:=(vs.map λv=>v.v.pieces.length).sum
theorem u5 {k:Nat}:∀ {vs:List bn},(∀ v ∈ vs,v.v.count.toNat<=k)->cost vs<=vs.length * k
 | [],_=>by simp [cost]
 |v::vs,h=>by
  have af:=u5 λu hu=>h u (jz _ hu)
  have al:=h v iA;have aL:v.v.pieces.length<=v.v.count.toNat:=P0 _ _ _;unfold cost at af ⊢;simp only [kQ,qR,l8];rw [nz];omega
section
variable {E:Env} {i:Nat} {j:eP}
theorem ajQ (aI:C3 E) (h:hx E i j):cost (zb j)<=555:=by
 have au:=Cm j.seq j.writes;have aJ:=h.hH;have af:cost (zb j)<=(zb j).length * 111:=u5 λv aw=>by rw [h.Sz] at aw;obtain ⟨m,_,rfl⟩:=eQ.1 aw;show ((je j.seq j.writes).length:Int).toNat<=111;omega
 have al:(zb j).length=E.n:=by rw [h.Sz];simp
 have:=aI.n;rw [al] at af;omega
theorem ajR (aI:C3 E) (h:hx E i j):cost (zc j)<=5:=by
 have af:cost (zc j)<=(zc j).length * 1:=u5 λv aw=>by rw [h.Vs] at aw;obtain ⟨m,_,rfl⟩:=eQ.1 aw;exact eJ _
 have al:(zc j).length=E.n:=by rw [h.Vs];simp
 have:=aI.n;omega
theorem ajS (aI:C3 E) (h:hx E i j):cost (f9 j)<=36:=by
 have af:cost (f9 j)<=(f9 j).length * 1:=u5 λv aw=>by
  obtain ⟨q,aM⟩:=hn.1 aw;rcases alX h aI.n.1 aM with ⟨p,_,_,rfl⟩ | ⟨s,_,rfl⟩
  ·exact eJ _
  ·exact eJ _
 have al:(f9 j).length=j.writes.length+j.reads.length:=by unfold f9;simp
 have:=h.hH;have:=h.Qg;omega
theorem Yj (aI:C3 E) (h:hx E i j):cost (nJ j)<=13:=by
 have aJ:=h.hH;have aN:∀ l:List a6,(∀ p ∈ l,p ∈ j.writes)->cost (l.map (jO 0))<=l.length:=λl au=>by
  induction l with
  |nil=>simp [cost]
  |cons p l c5=>
   have:=c5 λq aM=>au q (jz _ aM)
   unfold cost at this ⊢;simp only [kQ,qR,l8];have ar:=h.pl (au p iA);have:(jO 0 p).v.pieces=[(p.b5 * 8,8)]:=EH (v:=(jO 0 p).v) (by show (1:Int)<=8;omega) (by show p.b5 * 8 % 8+8<=8;omega) (by show 0<=p.b5 * 8;omega);rw [this,Ii];omega
 have af:=aN j.writes λp ar=>ar
 rw [h.abb aI.n.1];unfold cost at af ⊢;simp only [kQ,qR];have e8:=h.i6;have:(zH i j.seq 0).v.pieces=[(32+(i:Int),1)]:=EH (v:=(zH i j.seq 0).v) (by show (1:Int)<=1;omega) (by show (32+(i:Int)) % 8+1<=8;omega) (by show 0<=32+(i:Int);omega);rw [this,Ii];omega
theorem Aq (a b:List bn):cost (a++b)=cost a+cost b:=by simp [cost]
theorem ajT (aI:C3 E) (h:hx E i j):cost (C6 j)<=52:=by
 have aJ:=h.hH;have e8:=h.i6;have dH:∀ (m:Nat) (l:List a6),(∀ p ∈ l,p ∈ j.writes)->cost (l.map (jO m))<=l.length:=λm l au=>by
  induction l with
  |nil=>simp [cost]
  |cons p l c5=>
   have:=c5 λq aM=>au q (jz _ aM)
   unfold cost at this ⊢;simp only [kQ,qR,l8];have ar:=h.pl (au p iA);have:(jO m p).v.pieces=[(p.b5 * 8,8)]:=EH (v:=(jO m p).v) (by show (1:Int)<=8;omega) (by show p.b5 * 8 % 8+8<=8;omega) (by show 0<=p.b5 * 8;omega);rw [this,Ii];omega
 have vW:∀ m,cost [zH i j.seq m]=1:=λm=>by have:(zH i j.seq m).v.pieces=[(32+(i:Int),1)]:=EH (v:=(zH i j.seq m).v) (by show (1:Int)<=1;omega) (by show (32+(i:Int)) % 8+1<=8;omega) (by show 0<=32+(i:Int);omega);simp [cost,this]
 have k_:∀ k:Nat,cost ((List.range k).map λm=>j.writes.map (jO (m+1))++[zH i j.seq (m+1)]).flatten<=k * 13:=λk=>by
  induction k with
  |zero=>simp [cost]
  |succ k c5=>
   rw [rK,pB,WU,Aq];simp only [kQ,Mm,l7,List.flatten_nil,qd];rw [Aq,vW];have:=dH (k+1) j.writes λp ar=>ar
   omega
 rw [h.aaS];have:=k_ (E.n - 1);have:=aI.n;omega
variable (aI:C3 E) (h:hx E i j)
include aI h
end
end
section
open iH
theorem ak9 {α:Type} {l:List α} {a:α} (h:l[i]?=some a):l.set i a=l:=by
 apply rL;intro k;by_cases e:i=k
 ·subst e;rw [qe (dy h),h]
 ·rw [nC e]
def l3 (F:a9) (i:Nat) (C:cT):a9:={ F with bl:=F.bl.set i C }
theorem Zw (b0:F.bl[i]?=some C) (bc:C.alive=true) (hw:C.waiting=0):F.take (i:Int)=(C.batch,l3 F i { C with batch:=none }):=by
 unfold a9.take;rw [qC,b0];simp only;rw [if_neg (by rw [bc];simp)];cases ak:C.batch with
 |none=>
  have e:({ C with batch:=none }:cT)=C:=by rw [<-ak]
  simp only;rw [e];unfold l3;rw [ak9 b0]
 |some ds=>simp only;rw [if_neg (by omega)];rfl
theorem agG {n L:Nat} {N:Int} (kE:(n:Int)=N) (aj:n<=5):∀ {vs:List bn},(∀ v ∈ vs,n7 n L v)->qs N L vs=0
 | [],_=>rfl
 |v::vs,h=>by unfold qs;rw [if_neg (by rw [(h v iA).valid N (by omega) (by omega)];simp)];exact agG kE aj λu hu=>h u (jz _ hu)
theorem alY {n:Nat} (b0:F.bl[i]?=some C) (bc:C.alive=true) (ak:C.batch=none) (aw:vs≠[]) (au:vs.length<=1024) (aj:F.nodes.length=n) (bH:n<=5) (bE:F.lines=L) (a':∀ v ∈ vs,n7 n L v):F.post (i:Int) vs=(0,l3 F i (C.sI vs)):=by
 unfold a9.post;rw [qC,b0];simp only;rw [if_neg (by rw [bc];simp),if_neg (by rw [ak];simp),if_neg (λe=>aw (zh.1 e)),if_neg (by omega),if_neg]
 ·rfl
 ·rw [bE,agG (n:=n) (by rw [aj]) bH a'];simp
def iT (t:dB qm) (C:cT):List (List a_):=match C.batch with
 |none=>t.bD
 |some ds=>t.bD++[ds]
theorem Zx (t:dB qm) (C:cT):t.ST C.batch={ t with bD:=iT t C }:=by unfold iT dB.ST;cases C.batch<;>rfl
theorem Xq {n:Nat} {t:dB qm} (b0:F.bl[i]?=some C) (bc:C.alive=true) (hw:C.waiting=0) (ab:t.bw=(i:Int)) (aq:t.ix=false) (jm:(iT t C).length<=200) {o:qm.O} (ao:qm.next t.cH (iT t C)=(vs,o,false)) (aw:vs≠[]) (au:vs.length<=1024) (aj:F.nodes.length=n) (bH:n<=5) (bE:F.lines=L) (a':∀ v ∈ vs,n7 n L v) :
  eW F t=(l3 F i (({ C with batch:=none }:cT).sI vs),{ t with bD:=iT t C,ix:=false,out:=o }):=by
 have r_:F.alive t.bw=true:=by unfold a9.alive;rw [ab,qC,b0];exact bc
 have U9:F.waiting t.bw=0:=by unfold a9.waiting;rw [ab,qC,b0];exact hw
 unfold eW;rw [if_neg (by rw [aq,r_,U9];simp),ab,Zw b0 bc hw];simp only;rw [Zx];unfold sS;simp only;rw [if_neg (by omega),ao];simp only;rw [if_neg (by simp),ab];have apQ:(l3 F i { C with batch:=none }).bl[i]?=some { C with batch:=none }:=qe (dy b0);rw [alY (F:=l3 F i { C with batch:=none }) apQ bc rfl aw au aj bH bE a'];rw [if_neg (by simp)];unfold dB.told;simp only;rw [ao];unfold l3;simp only [List.set_set]
theorem Xr {t:dB qm} (b0:F.bl[i]?=some C) (bc:C.alive=true) (hw:C.waiting=0) (ab:t.bw=(i:Int)) (aq:t.ix=false) (jm:(iT t C).length<=200) {o:qm.O} (ao:qm.next t.cH (iT t C)=([],o,true)) :
  eW F t=(l3 F i { C with batch:=none },{ t with bD:=iT t C,ix:=true,out:=o }):=by
 have r_:F.alive t.bw=true:=by unfold a9.alive;rw [ab,qC,b0];exact bc
 have U9:F.waiting t.bw=0:=by unfold a9.waiting;rw [ab,qC,b0];exact hw
 unfold eW;rw [if_neg (by rw [aq,r_,U9];simp),ab,Zw b0 bc hw];simp only;rw [Zx];unfold sS;simp only;rw [if_neg (by omega),ao];simp only;rw [if_pos trivial];unfold dB.told;simp only;rw [ao,ab]
theorem alZ {k:Nat} (he:∀ (m:Nat) (l:eM),C.aU[m]?=some l->l.pair.cu=0) (aj:v.node.toNat<C.aU.length):oX (C.k3 k v)=oX C+v.v.pieces.length/\∀ (m:Nat) (l:eM),(C.k3 k v).aU[m]?=some l->l.pair.cu=0:=by
 have z3:∀ m,(C.k3 k v).aU[m]?=(C.aU[m]?).map λl=>if v.node.toNat=m then (⟨{ l.pair with bN:=l.pair.bN++[v] },l.cP++[k]⟩:eM) else l:=λm=>by
  unfold cT.k3;simp only [Ic];cases C.aU[m]? with
  |none=>rfl
  |some l=>by_cases e:v.node.toNat=m<;>simp [e]
 obtain ⟨eU,BV⟩:∃ l,C.aU[v.node.toNat]?=some l:=⟨_,cp aj⟩;have kW:(C.k3 k v).aU.map oY=(C.aU.map oY).set v.node.toNat (oY eU+v.v.pieces.length):=by
  apply rL;intro m;rw [gV,z3];by_cases e:v.node.toNat=m
  ·subst e;rw [qe (by simpa using aj),BV];simp only [xM,if_true];congr 1;have:=he _ eU BV;unfold oY;simp [this]
  ·rw [nC e,gV];cases C.aU[m]? with
   |none=>rfl
   |some l=>simp [e]
 refine ⟨?_,λm l hm=>?_⟩
 ·unfold oX;rw [kW];have:=RJ (l:=C.aU.map oY) (i:=v.node.toNat) (a:=oY eU) (b:=oY eU+v.v.pieces.length) (by rw [gV,BV];rfl);omega
 ·rw [z3] at hm;cases ab:C.aU[m]? with
  |none=>rw [ab] at hm;cases hm
  |some ft=>
   rw [ab] at hm;simp only [xM,iX] at hm;subst hm;have:=he m ft ab;split
   ·exact this
   ·exact this
theorem YL:∀ (vs:List bn) {C:cT} {k:Nat},(∀ (m:Nat) (l:eM),C.aU[m]?=some l->l.pair.cu=0)->(∀ v ∈ vs,v.node.toNat<C.aU.length)->oX (C.lF k vs)=oX C+cost vs
 | [],C,k,he,aj=>by simp [cT.lF,cost]
 |v::vs,C,k,he,aj=>by
  obtain ⟨af,al⟩:=alZ (k:=k) he (aj v iA);have au:(C.k3 k v).aU.length=C.aU.length:=by simp [cT.k3]
  have:=YL vs (k:=k+1) al (λu hu=>by rw [au];exact aj u (jz _ hu));show oX ((C.k3 k v).lF (k+1) vs)=_;rw [this,af];unfold cost;simp only [kQ,qR];omega
theorem W5:∀ (vs:List bn) (C:cT) (k:Nat),(C.lF k vs).aU.length=C.aU.length/\(C.lF k vs).inc=C.inc
 | [],C,k=>⟨rfl,rfl⟩
 |v::vs,C,k=>by obtain ⟨af,al⟩:=W5 vs (C.k3 k v) (k+1);exact ⟨af.trans (by simp [cT.k3]),al⟩
theorem LD (h:mO C):oX C=0:=by
 unfold oX;have:∀ ls:List eM,(∀ l ∈ ls,l.pair.bN=[])->(ls.map oY).sum=0:=λls=>by
  induction ls with
  |nil=>intro _;rfl
  |cons l ls c5=>intro au;rw [kQ,qR,c5 λx ao=>au x (jz _ ao)];unfold oY;rw [au l iA];simp
 exact this C.aU λl au=>by obtain ⟨k,J⟩:=hn.1 au;exact h k l J
def gR (F:a9) (i:Nat):Nat:=match F.bl[i]? with
 |some C=>oX C
 |none=>0
end
section
open iH
theorem tS {α:Type} {l:List α} {a:α} (h:l[i]?=some a):l.set i a=l:=by
 apply rL;intro k;by_cases e:i=k
 ·subst e;rw [qe (dy h),h]
 ·rw [nC e]
structure RX (E:Env) (cm:List bt) (i j:Nat) (C:cT) (vs:List bn) (cf:Nat->Option a_) (l:eM) (x:bt) (v:bn) (im:List bn) (q:Nat) (dA:eI):Prop where
 lane:C.aU[j]?=some l
 node:cm[j]?=some x
 np:l.pair.bN=v::im
 pl:l.cP=q::dA
 at_:vs[q]?=some v
 nd:v.node.toNat=j
 cf:cf q=none
 pc:l.pair.bw=(i:Int)
 pi:l.pair.inc=1
 du:jW l.pair
 x_:MN l.pair
def A7 (E:Env) (C:cT) (cm:List bt):Prop:=∀ (k:Nat) (l:eM) (y:bt),C.aU[k]?=some l->cm[k]?=some y->∀ i,i<(lK E).length->i<8 * l.pair.cu->y.get (56+i)=(lK E).getD i 0
theorem rx (h:C.aU[j]?=some l) (p:fx) (d:Option a_):∃ l',(C.comes j l p d).aU[j]?=some l'/\l'.pair=p:=by
 have aK:=dy h;cases d with
 |none=>exact ⟨{ l with pair:=p },by simp [cT.comes,aK],rfl⟩
 |some d=>exact ⟨⟨p,l.cP.tail⟩,by simp [cT.comes,aK],rfl⟩
theorem A7.step {cm:List bt} (h:A7 E C cm) {k5:bt} (au:C.aU[j]?=some l) (ao:cm[j]?=some x) {p:fx} {d:Option a_} (ar:∀ i,i<(lK E).length->i<8 * p.cu->k5.get (56+i)=(lK E).getD i 0):A7 E (C.comes j l p d) (cm.set j k5):=by
 intro k l' y J az i aD he;by_cases e:k=j
 ·subst e;obtain ⟨l2,al,aL⟩:=rx au p d;rw [al] at J;cases J;rw [qe (dy ao)] at az;cases az;rw [aL] at he;exact ar i aD he
 ·rw [Cg e] at J;rw [nC (λbg=>e bg.symm)] at az;exact h k l' y J az i aD he
theorem sx {cf:Nat->Option a_} {gA:a_} (h:jh cf q d dZ=some gA):(dZ=q/\gA=d)\/(dZ≠q/\cf dZ=some gA):=by
 by_cases e:dZ=q
 ·subst e;rw [HQ] at h;cases h;exact .inl ⟨rfl,rfl⟩
 ·rw [FX e] at h;exact .inr ⟨e,h⟩
theorem QY {cf:Nat->Option a_} (h:jh cf q d dZ=none):dZ≠q/\cf dZ=none:=by
 by_cases e:dZ=q
 ·subst e;rw [HQ] at h;cases h
 ·rw [FX e] at h;exact ⟨e,h⟩
section
variable {E:Env} {A:cd} {g:kt}
theorem iC.no (h:iC E A g) (aC:d.code≠0):iC E A ⟨g.aQ,jh g.cf q d⟩:=by
 have key:∀ {dZ gA},jh g.cf q d dZ=some gA->gA.code=0->g.cf dZ=some gA:=λ{dZ gA} af al=>by
  rcases sx af with ⟨_,e⟩ | ⟨_,e⟩
  ·rw [e] at al;exact absurd al aC
  ·exact e
 unfold iC at h ⊢;simp only;split at h
 ·exact ⟨h.1,h.2.1,h.2.2.1,λm hm gA af al=>h.2.2.2 m hm gA (key af al) al⟩
 ·exact ⟨h.1,h.2.1,λdZ p ar=>⟨λaf=>(h.2.2 dZ p ar).1 (QY af).2,λgA af al=>(h.2.2 dZ p ar).2 gA (key af al) al⟩⟩
 ·exact ⟨h.1,h.2.1,λm hm gA af al=>h.2.2 m hm gA (key af al) al⟩
 ·exact ⟨h.1,λdZ v gA af al aL=>h.2 dZ v gA af (key al aL) aL⟩
 ·exact ⟨h.1,h.2.1,λdZ v gA af al aL=>h.2.2 dZ v gA af (key al aL) aL⟩
 ·exact h
 ·trivial
theorem xU.add {cf:Nat->Option a_} (h:xU E A vs cf) (aw:vs[q]?=some v) (aC:vr E A v):xU E A vs (jh cf q d):=λdZ bX gA af al aL=>by
 rcases sx al with ⟨e,_⟩ | ⟨_,e⟩
 ·subst e;rw [aw] at af;cases af;exact aC
 ·exact h dZ bX gA af e aL
theorem xZ.add (h:xZ E A g) (hm:fN E A A') (aw:(g7 E g.aQ)[q]?=some v) (aC:(d.code=0/\(d.words.length:Int)=v.v.ow)\/(d.code=5/\d.words=[]/\A'.fA v.node.toNat=true)):xZ E A' ⟨g.aQ,jh g.cf q d⟩:=λdZ gA af=>by
 rcases sx af with ⟨bY,bg⟩ | ⟨_,e⟩
 ·subst bY bg;exact ⟨v,aw,aC⟩
 ·obtain ⟨bX,bs,bI⟩:=h dZ gA e;refine ⟨bX,bs,?_⟩;rcases bI with bI | ⟨a,b,c⟩
  ·exact .inl bI
  ·exact .inr ⟨a,b,hm.fA _ c⟩
theorem xZ.mono (h:xZ E A g) (hm:fN E A A'):xZ E A' g:=λdZ gA af=>by
 obtain ⟨bX,bs,bI⟩:=h dZ gA af;refine ⟨bX,bs,?_⟩;rcases bI with bI | ⟨a,b,c⟩
 ·exact .inl bI
 ·exact .inr ⟨a,b,hm.fA _ c⟩
structure I2 (E:Env) (A:cd) (g:kt) (cm:List bt) (j:Nat) (C:cT) (l:eM) (x:bt) (A':cd) (cU:kt):Prop where
 aQ:cU.aQ=g.aQ
 rep:qi E A' (cm.set j (l.pair.step x).2.1)
 law:iI E A'
 ok:iC E A' cU
 res:xZ E A' cU
 vG:lk (C.comes j l (l.pair.step x).1 (l.pair.step x).2.2) (g7 E g.aQ) cU.cf
 qk:g.aQ=0->A7 E (C.comes j l (l.pair.step x).1 (l.pair.step x).2.2) (cm.set j (l.pair.step x).2.1)
 ld:zx E A A'
 stay:A.fA j=true->A'=A/\cm.set j (l.pair.step x).2.1=cm
 afM:(A'.gU,A'.fA)=(A.gU,A.fA)
theorem I2.gU {E:Env} {A:cd} {g:kt} {cm:List bt} {j:Nat} {C:cT} {l:eM} {x:bt} {A':cd} {cU:kt} (h:I2 E A g cm j C l x A' cU):A'.gU=A.gU:=congrArg Prod.fst h.afM
theorem I2.fA {E:Env} {A:cd} {g:kt} {cm:List bt} {j:Nat} {C:cT} {l:eM} {x:bt} {A':cd} {cU:kt} (h:I2 E A g cm j C l x A' cU):A'.fA=A.fA:=congrArg Prod.snd h.afM
theorem LJ (hm:fN E A A') (c_:j<E.n) (aC:A.fA j=false):zx E A A':=
 ⟨hm,λh=>(by have:=h j c_;rw [aC] at this;cases this),λh=>(by have:=h j c_;rw [aC] at this;cases this)⟩
theorem YM:zx E A A:=⟨fN.refl E A,λ_ h=>h,λ_ _ p _ h=>h⟩
theorem R4 (aI:di E) {aQ q:Nat} (h:(g7 E aQ)[q]?=some v):n7 E.n E.L v/\v.v.Kind≠1:=by
 have aj:=aI.e.n;have bE:=aI.e.L;have ak:=aI.ux
 match aQ,h with
 | 0,h=>simp only [g7,gV] at h;obtain ⟨m,hm,rfl⟩:=sY.1 h;have:=jT.1 (dn hm);exact ⟨zd aj.2 this (by omega) (by omega) (by omega) (by omega) (by rw [ak.1];omega),by show (2:Int)≠1;omega⟩
 | 1,h=>simp only [g7,gV] at h;obtain ⟨p,ar,rfl⟩:=sY.1 h;have au:=aI.pl (dn ar);exact ⟨AJ aj.2 (by omega) (by omega) (by omega) (by omega),by show (3:Int)≠1;omega⟩
 | 2,h=>simp only [g7,gV] at h;obtain ⟨m,hm,rfl⟩:=sY.1 h;have:=jT.1 (dn hm);exact ⟨zd aj.2 this (by omega) (by omega) (by simp) (by simp) (by simp;omega),by show (2:Int)≠1;omega⟩
 | 3,h=>
  obtain ⟨m,hm,_,⟨p,ar,rfl⟩ | ⟨rfl,_⟩⟩:=Ni h
  ·exact ⟨FL aI hm ar,by show (2:Int)≠1;omega⟩
  ·exact ⟨FM aI hm,by show (2:Int)≠1;omega⟩
 |n+4,h=>
  obtain ⟨_,⟨_,rfl⟩ | ⟨_,p,ar,rfl⟩⟩:=Nj (show (kn E (cA E))[q]?=some v from h)
  ·exact ⟨FM aI (by omega),by show (2:Int)≠1;omega⟩
  ·exact ⟨FL aI (by omega) ar,by show (2:Int)≠1;omega⟩
theorem aoc (aI:di E) {cm:List bt} (cC:qi E A cm) (bE:iI E A) (aN:iC E A g) (aA:xZ E A g) (oh:g.aQ<=4) (fb:lk C (g7 E g.aQ) g.cf) (aC:RX E cm 0 j C (g7 E g.aQ) g.cf l x v im q dA) (DX:g.aQ=0->A7 E C cm) :
  ∃ A' cU,I2 E A g cm j C l x A' cU:=by
 obtain ⟨lV,hk⟩:=R4 aI aC.at_;have aj:=aI.e.n;have gj:=cC.mem j x aC.node;have j1:j<E.n:=by have:=dy aC.node;rw [cC.len] at this;exact this
 have m8:=ZA gj.ba aj.2 lV (p:=l.pair) (c:=0) aC.pc aC.pi (by omega);rw [if_neg (λe=>hk e.2)] at m8;have wq:=gj.ba.len;have BW:=aI.wA;have fin:∀ {d:a_},(l.pair.step x).1=l.pair.done->(l.pair.step x).2.2=some d->lk (C.comes j l (l.pair.step x).1 (l.pair.step x).2.2) (g7 E g.aQ) (jh g.cf q d):=λ{d} af al=>by rw [af,al];exact fb.done aC.lane aC.np (by show l.pair.bN.tail=im;rw [aC.np];rfl) aC.pl d
 have Gi:(l.pair.step x).1=l.pair.done->g.aQ=0->A7 E (C.comes j l (l.pair.step x).1 (l.pair.step x).2.2) (cm.set j (l.pair.step x).2.1):=λaf al=>(DX al).step aC.lane aC.node λi aD he=>by rw [af] at he;exact absurd he (by show ¬ i<8 * 0;omega)
 cases gn:A.fA j with
 |true=>
  rw [if_pos ⟨gn,rfl⟩] at m8;have cq:=RW aC.np (x:=x) (by rw [m8];omega);rw [m8] at cq;have af:(l.pair.step x).1=l.pair.done:=by rw [cq]
  have al:(l.pair.step x).2.1=x:=by rw [cq]
  have aL:(l.pair.step x).2.2=some ⟨5,[]⟩:=by rw [cq]
  refine ⟨A,⟨g.aQ,jh g.cf q ⟨5,[]⟩⟩,rfl,by rw [al,tS aC.node];exact cC,bE,aN.no (by simp),aA.add (fN.refl E A) aC.at_ (.inr ⟨rfl,rfl,by rw [aC.nd];exact gn⟩),fin af aL,Gi af,YM,λ_=>⟨rfl,by rw [al,tS aC.node]⟩,rfl⟩
 |false=>
  rw [if_neg (λe=>by rw [gn] at e;cases e.1)] at m8;have aeA:¬ pD E A:=λh=>by have:=h j j1;rw [gn] at this;cases this
  have stay:A.fA j=true->∀ {P:Prop},P:=λe=>by rw [gn] at e;cases e
  have uv:∀ (dZ:Nat) (bX:bn),dZ<q->(g7 E g.aQ)[dZ]?=some bX->bX.node.toNat=j->∃ d,g.cf dZ=some d/\d.code=0:=λdZ bX af al aL=>by
   obtain ⟨d,pj⟩:=fb.before aC.lane aC.pl af al aL;obtain ⟨v2,bs,bI⟩:=aA dZ d pj;rw [al] at bs;cases bs;rcases bI with bI | ⟨_,_,bI⟩
   ·exact ⟨d,pj,bI.1⟩
   ·rw [aL,gn] at bI;cases bI
  have one:∀ {a:Nat} {ws:bR},v=dV j (a:Int) ws->a % 8=0->ws.length<=8->a+ws.length<=x.words.length->l.pair.step x=(l.pair.done,x.write a ws,some ⟨0,[]⟩):=λ{a ws} e bc hj au=>by have fP:=aC.np;rw [e] at fP m8;exact aaq aC.du fP m8 bc (aC.x_ _ _ fP rfl) au hj
  obtain e | e | e | e | e:g.aQ=0\/g.aQ=1\/g.aQ=2\/g.aQ=3\/g.aQ=4:=by omega
  ·
   unfold iC at aN;rw [e] at aN;obtain ⟨dr,c2,eA,hE⟩:=aN;have ez:=aC.at_;rw [e] at ez
   simp only [g7,gV] at ez
   obtain ⟨m,hm,rfl⟩:=sY.1 ez
   have Aa:m=q:=by have aM:=dy hm;rw [ui] at aM;rw [rM aM] at hm;exact (zf hm).symm
   subst Aa;have Ka:m=j:=by have:=aC.nd;simp [dV] at this;exact this
   subst Ka;have ak:=aI.ux;have aq6:=aC.x_ _ _ aC.np rfl;obtain ⟨s1,s2,dm,dS,eV⟩:=Se (a:=56) aC.du aC.np m8 (by omega) aq6 (by omega);have adM:=DX e m l x aC.lane aC.node;have aeh:∀ {A':cd},(∀ p ∈ cA E,A'.cO m (b9 p)=A.cO m (b9 p))->A'.eo m=A.eo m->A'.gq m=A.gq m->A'.fA m=A.fA m->(m=0->A'.gU=A.gU)->(A'.hF m=true->∀ k,k<(lK E).length->(l.pair.step x).2.1.get (56+k)=(lK E).getD k 0)->Mem E A' m (l.pair.step x).2.1:=λaf al aL ca c9 e8=>
    gj.low aI dm (by omega) (by omega) af ca (.inl (by omega)) (by rw [dm.get _ (by omega),aL];exact gj.gq) (by rw [dm.get _ (by omega),al];exact gj.eo) (λiN=>by rw [dm.get _ (by omega),c9 iN];exact gj.gU iN) e8
   rcases eV with ⟨t1,t2,t3⟩ | ⟨t1,t2,t3⟩
   ·refine ⟨A,g,rfl,cC.jh aC.node (aeh (λ_ _=>rfl) rfl rfl rfl (λ_=>rfl) λak k J=>dS k J (.inr (gj.hF ak k J))) (λ_ _ _ h=>h),bE,by unfold iC;rw [e];exact ⟨dr,c2,eA,hE⟩,aA,?_,λ_=>(DX e).step aC.lane aC.node λi aD he=>?_,YM,λe=>stay e,rfl⟩
    ·rw [t2,t3];exact fb.more aC.lane rfl
    ·rw [t2] at he;refine dS i aD ?_;by_cases hj:i<8 * l.pair.cu
     ·exact .inr (adM i aD hj)
     ·exact .inl ⟨by omega,he⟩
   ·have k_:∀ k,k<(lK E).length->(l.pair.step x).2.1.get (56+k)=(lK E).getD k 0:=λk J=>dS k J (by
     by_cases hj:k<8 * l.pair.cu
     ·exact .inr (adM k J hj)
     ·exact .inl ⟨by omega,by omega⟩)
    have iD:fN E A (A.CC m):=amo;refine ⟨A.CC m,⟨g.aQ,jh g.cf m ⟨0,[]⟩⟩,rfl,cC.jh aC.node (aeh (λ_ _=>rfl) rfl rfl rfl (λ_=>rfl) λ_=>k_) (λcW g4 y az=>az.same (λ_ _=>rfl) rfl rfl (by simp [cd.CC,g4]) rfl (λ_=>rfl)),bE.aoZ m,?_,aA.add iD aC.at_ (.inl ⟨rfl,rfl⟩),fin t2 t3,Gi t2,LJ iD j1 gn,λe=>stay e,rfl⟩;unfold iC;simp only [e];refine ⟨dr,c2,eA,λcW g4 d af al=>?_⟩;rcases sx af with ⟨bs,_⟩ | ⟨_,bs⟩
    ·rw [bs];simp [cd.CC]
    ·exact iD.hF cW (hE cW g4 d bs al)
  ·
   unfold iC at aN;rw [e] at aN;obtain ⟨dr,c2,eA⟩:=aN;have ez:=aC.at_;rw [e] at ez
   simp only [g7,gV] at ez
   obtain ⟨p,ar,rfl⟩:=sY.1 ez
   have tm:j=0:=by have:=aC.nd;simp [kc] at this;exact this.symm
   subst tm;have kV:=dn ar;have hl:=aI.pl kV;have uU:=(eA q p ar).1 aC.cf;obtain ⟨ed,_⟩:=gj.aC aI kV (by omega);have ed:=ed uU;have fP:l.pair.bN=kc 0 ((b9 p * 8:Nat):Int) p.Head (ii p.Head 0)::im:=by rw [aC.np,show p.b5 * 8=((b9 p * 8:Nat):Int) by omega]
   have cq:=IN (x:=x) aC.du fP (by rw [show p.b5 * 8=((b9 p * 8:Nat):Int) by omega] at m8;exact m8);rw [ed] at cq;have q8:x.kS ((b9 p * 8:Nat):Int) p.Head (ii p.Head 0)={ x with words:=x.words.set (b9 p * 8) (ii p.Head 0) }:=by unfold bt.kS;rw [j_,if_pos ed]
   rw [q8] at cq;have iD:fN E A (A.lJ 0 (b9 p) 1):=MI λbg=>by omega
   refine ⟨A.lJ 0 (b9 p) 1,⟨g.aQ,jh g.cf q ⟨0,[p.Head]⟩⟩,rfl,by rw [cq];exact cC.jh aC.node (gj.avh aI kV uU) (λcW g4 y az=>az.same (λp' _=>by simp [cd.lJ,g4]) rfl rfl rfl rfl (λ_=>rfl)),bE.p2 (by omega) (λe=>by omega) (λe=>by omega) (λe=>by omega) (λe=>by omega) (λe=>by omega),?_,aA.add iD aC.at_ (.inl ⟨rfl,rfl⟩),fin (by rw [cq]) (by rw [cq]),Gi (by rw [cq]),LJ iD j1 gn,λe=>stay e,rfl⟩;unfold iC;simp only [e];refine ⟨dr,c2,λdZ p' hA=>⟨λaf=>?_,λd af al=>?_⟩⟩
   ·obtain ⟨bs,bI⟩:=QY af;have cj:b9 p'≠b9 p:=λbg=>by
     have:=aI.inj (dn hA) kV bg;subst this;have ra:=aI.cH.nodup;have i1:((cA E).map (·.b5))[dZ]?=some p'.b5:=by rw [gV,hA];rfl
     have i2:((cA E).map (·.b5))[q]?=some p'.b5:=by rw [gV,ar];rfl
     exact bs ((Q9 (dy i1) ra).1 (i1.trans i2.symm))
    simp only [cd.lJ];rw [if_neg (λdF=>cj dF.2)];exact (eA dZ p' hA).1 bI
   ·rcases sx af with ⟨bs,bI⟩ | ⟨_,bs⟩
    ·subst bs bI;rw [ar] at hA;cases hA;exact ⟨rfl,.inl (by simp [cd.lJ])⟩
    ·obtain ⟨b1,aP⟩:=(eA dZ p' hA).2 d bs al;refine ⟨b1,?_⟩;rcases aP with aP | aP
     ·left;simp only [cd.lJ];split
      ·rfl
      ·exact aP
     ·exact absurd aP aeA
  ·
   unfold iC at aN;rw [e] at aN;obtain ⟨dr,c2,eA⟩:=aN;have ez:=aC.at_;rw [e] at ez
   simp only [g7,gV] at ez
   obtain ⟨m,hm,rfl⟩:=sY.1 ez
   have Aa:m=q:=by have aM:=dy hm;rw [ui] at aM;rw [rM aM] at hm;exact (zf hm).symm
   subst Aa;have Ka:m=j:=by have:=aC.nd;simp [dV] at this;exact this
   subst Ka;have cq:=one (a:=48) rfl (by omega) (by simp) (by simp;omega);have uU:∀ p ∈ cA E,A.cO 0 (b9 p)≠0:=λp ar=>by
    by_cases sk:ku E A
    ·rcases c2 sk with bs | bs
     ·rw [bs p ar];omega
     ·exact absurd bs aeA
    ·have:∃ m,m<E.n/\A.eo m=true:=by
      refine Classical.byContradiction λab=>sk λm hm=>?_
      cases pT:A.eo m with
      |false=>rfl
      |true=>exact absurd ⟨m,hm,pT⟩ ab
     obtain ⟨cW,g4,pT⟩:=this;exact (bE.l2 cW g4 pT).2 p ar
   have iD:fN E A (A.p_ m):=Za;refine ⟨A.p_ m,⟨g.aQ,jh g.cf m ⟨0,[]⟩⟩,rfl,by rw [cq];exact cC.jh aC.node (gj.Lh aI) (λcW g4 y az=>az.same (λp' _=>rfl) (by simp [cd.p_,g4]) rfl rfl rfl (λ_=>rfl)),bE.Lh dr uU m,?_,aA.add iD aC.at_ (.inl ⟨rfl,rfl⟩),fin (by rw [cq]) (by rw [cq]),Gi (by rw [cq]),LJ iD j1 gn,λe=>stay e,rfl⟩;unfold iC;simp only [e];refine ⟨dr,λfp=>?_,λcW g4 d af al=>?_⟩
   ·have:=fp m j1;simp [cd.p_] at this
   ·rcases sx af with ⟨bs,_⟩ | ⟨_,bs⟩
    ·rw [bs];simp [cd.p_]
    ·exact iD.eo cW (eA cW g4 d bs al)
  ·
   unfold iC at aN;rw [e] at aN;obtain ⟨dr,c2⟩:=aN;have ez:=aC.at_;rw [e] at ez uv;obtain ⟨a,ws,A',r1,ko,nZ,sJ,Ax,Ay,EX,mT,Az,VO,axJ⟩:=Z0 aI cC bE dr (λp ar=>ar) ez aC.nd aC.node (λdZ bX af al aL=>by obtain ⟨d,bs,bI⟩:=uv dZ bX af al aL;exact c2 dZ bX d al bs bI) λp ar=>.inl ar
   have cq:=one r1 ko nZ sJ;refine ⟨A',⟨g.aQ,jh g.cf q ⟨0,[]⟩⟩,rfl,by rw [cq];exact Ax,Ay,?_,aA.add mT aC.at_ (.inl ⟨rfl,by rw [r1];rfl⟩),fin (by rw [cq]) (by rw [cq]),Gi (by rw [cq]),LJ mT j1 gn,λe=>stay e,Az⟩;unfold iC;simp only [e];exact ⟨mT.am dr,(c2.mono mT).add ez EX⟩
  ·
   unfold iC at aN;rw [e] at aN;obtain ⟨dr,c2,eA⟩:=aN;have ez:=aC.at_;rw [e] at ez uv;obtain ⟨a,ws,A',axI,r1,ko,nZ,sJ,Ax,Ay,EX,mT,Az,VO⟩:=Z1 aI cC bE dr c2 (λp ar=>ar) ez aC.nd aC.node (λdZ bX af al aL=>by obtain ⟨d,bs,bI⟩:=uv dZ bX af al aL;exact eA dZ bX d al bs bI);have cq:=one r1 ko nZ sJ;refine ⟨A',⟨g.aQ,jh g.cf q ⟨0,[]⟩⟩,rfl,by rw [cq];exact Ax,Ay,?_,aA.add mT aC.at_ (.inl ⟨rfl,by rw [r1];rfl⟩),fin (by rw [cq]) (by rw [cq]),Gi (by rw [cq]),LJ mT j1 gn,λe=>stay e,Az⟩;unfold iC;simp only [e];exact ⟨mT.am dr,mT.Dy c2,(eA.mono mT).add ez EX⟩
end
end
end Go.Proofs.YtmkljjbioomepaaGreat
