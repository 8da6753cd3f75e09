import Derived.Test.YtmkljjbioomepaaGreatd34
import Derived.Test.YtmkljjbioomepaaGreatd22
set_option linter.all false
set_option maxHeartbeats 4000000
set_option maxRecDepth 100000
namespace Go.Proofs.YtmkljjbioomepaaGreat
open Go.Proofs.Tryz Go.bs
variable {A A':bu} {C:bh} {E:Env} {F:aE} {L i j m b4 q cH:Nat} {cv:Conv} {d:aM} {l:cA} {n x:aN} {p:aK} {cl:cT} {v:aQ} {vs e0:List aQ} {ws:a8}
section
open e7
theorem vO {α:Type} {k:Nat} (g:0<k):∀ {hx:List (List α)} {q:Nat} {v:α},(∀ b ∈ hx,b.length=k)->hx.flatten[q]?=some v->∃ (i:Nat) (b:List α),hx[i]?=some b/\i * k<=q/\b[q - i * k]?=some v
 | [],q,v,_,h=>by simp at h
 |b::hx,q,v,a,h=>by
  have n:=a b eO;rw [hg] at h;by_cases j:q<b.length
  ·rw [h3 j] at h;exact ⟨0,b,rfl,by omega,by simpa using h⟩
  ·rw [h4 (by omega)] at h;obtain ⟨i,c,d,l,e⟩:=vO g (λc f=>a c (fw _ f)) h;refine ⟨i+1,c,by simpa using d,by rw [h2];omega,?_⟩;rw [h2,<-e];congr 1;omega
theorem te {α:Type} {k:Nat}:∀ {hx:List (List α)} {i r:Nat} {b:List α} {v:α},(∀ b ∈ hx,b.length=k)->hx[i]?=some b->b[r]?=some v->hx.flatten[i * k+r]?=some v
 | [],i,r,b,v,_,h,_=>by simp at h
 |c::hx,0,r,b,v,d,h,a=>by simp at h;subst h;rw [hg,h3 (by have:=b3 a;omega),vu,gM];exact a
 |c::hx,i+1,r,b,v,d,h,a=>by have f:=d c eO;rw [hg,h4 (by rw [h2];omega),f,h2,show i * k+k+r - k=i * k+r by omega];exact te (λc e=>d c (fw _ e)) (by simpa using h) a
theorem gO.before {bt:Nat->Option aM} (h:gO C vs bt) (f:C.az[j]?=some l) (g:l.bC=q::cl) {bj:aQ} (k:cH<q) (al:vs[cH]?=some bj) (n:bj.node.toNat=j):∃ d,bt cH=some d:=by
 cases aq:bt cH with
 |some d=>exact ⟨d,rfl⟩
 |none=>
  exfalso;obtain ⟨p,l',a,hm⟩:=h.left cH (b3 al) aq;obtain ⟨t,o⟩:=ei.1 hm;obtain ⟨v,c,_,i,_⟩:=(h.lane p l' a).at_ t cH o
  rw [al] at c;cases c;rw [<-i,n] at a;rw [f] at a;cases a;have b:=(h.lane j l f).wP;rw [g,Bz] at b;rw [g] at hm;rcases eU.1 hm with e | e
  ·omega
  ·have:=b.1 cH e;omega
section
variable {E:Env} {l:List aK}
theorem wD (h:(fR E l)[q]?=some v):∃ m,m+1<E.n/\v.node=((m+1:Nat):Int)/\((∃ p ∈ l,v=fO (m+1) p)\/(v=cD (m+1) 32 [dd E]/\∀ p ∈ l,∃ cH,cH<q/\(fR E l)[cH]?=some (fO (m+1) p))):=by
 have e:∀ b ∈ (List.range (E.n - 1)).map (λm=>l.map (fO (m+1))++[cD (m+1) 32 [dd E]]),b.length=l.length+1:=λb e=>by obtain ⟨m,_,rfl⟩:=cZ.1 e;simp
 obtain ⟨i,b,c,t,a⟩:=vO (by omega) e h;have k:=b3 c;simp only [fZ,lJ] at k;have f:=c;rw [dS,j6 k] at c;simp only [mc,fg] at c;subst c;refine ⟨i,by omega,?_⟩;by_cases o:q - i * (l.length+1)<l.length
 ·rw [h3 (by simpa using o),dS] at a;obtain ⟨p,g,rfl⟩:=kX.1 a;exact ⟨rfl,.inl ⟨p,b5 g,rfl⟩⟩
 ·rw [h4 (by simpa using o)] at a;have:=b3 a;simp only [fZ,tn] at this;have s:q - i * (l.length+1) - (l.map (fO (i+1))).length=0:=by simp only [fZ];omega
  rw [s] at a;simp only [rz,fg] at a;subst a;refine ⟨rfl,.inr ⟨rfl,λp g=>?_⟩⟩;obtain ⟨r,d⟩:=ei.1 g;have j:=b3 d;refine ⟨i * (l.length+1)+r,by omega,te e f ?_⟩;rw [h3 (by simpa using j),dS,d];rfl
theorem wE (h:(gd E l)[q]?=some v):v.node=0/\((q=0/\v=cD 0 32 [dd E])\/(0<q/\∃ p ∈ l,v=fO 0 p)):=by
 cases q with
 |zero=>simp [gd] at h;subst h;exact ⟨rfl,.inl ⟨rfl,rfl⟩⟩
 |succ q=>unfold gd at h;rw [n4,dS] at h;obtain ⟨p,a,rfl⟩:=kX.1 h;exact ⟨rfl,.inr ⟨by omega,p,b5 a,rfl⟩⟩
theorem Qi {p':aK} (h:fO m p=fO b4 p') (d:0<=p.bm) (a:0<=p'.bm):m=b4/\br p=br p':=by
 have b:(m:Int)=b4:=congrArg aQ.node h;have c:p.bm * 8=p'.bm * 8:=congrArg aQ.at_ h;refine ⟨by omega,?_⟩;show p.bm.toNat=p'.bm.toNat
 have:p.bm=p'.bm:=by omega
 rw [this]
theorem EO (b:96<=p.bm):fO m p≠cD b4 32 [dd E]:=λh=>by have a:p.bm * 8=32:=congrArg aQ.at_ h;omega
theorem WH {a:Int} (h:cD m a ws=cD b4 a ws):m=b4:=by have b:(m:Int)=b4:=congrArg aQ.node h;omega
theorem EP (ay:cg E) (f:p ∈ bM E) (h:A.bV m (br p)=2):mf E A (fO m p):=by have g:=ay.pl f;refine ⟨λb4 p' c e=>?_,λb4 e=>absurd e (EO (by omega))⟩;have d:=ay.pl c;obtain ⟨a,b⟩:=Qi e (by omega) (by omega);rw [<-a,<-b];exact h
theorem ER (ay:cg E) (h:A.dJ m=true):mf E A (cD m 32 [dd E]):=by refine ⟨λb4 p' a e=>absurd e.symm (EO (by have:=ay.pl a;omega)),λb4 e=>?_⟩;rw [<-WH e];exact h
theorem rL (ay:cg E) (hm:m<E.n) (b:p ∈ bM E):iw E.n E.L (fO m p):=by have d:=ay.pl b;have a:=ay.e.n;have c:=ay.e.L;exact nh a.2 hm (by omega) (by omega) (by show 1<=8;omega) (by show 8<=1000;omega) (by show p.bm * 8+(8:Int)<=_;omega)
theorem rM (ay:cg E) (hm:m<E.n):iw E.n E.L (cD m 32 [dd E]):=by have a:=ay.e.n;have b:=ay.e.L;exact nh a.2 hm (by omega) (by omega) (by simp) (by simp) (by simp;omega)
end
theorem Fx {p:cR} {a:Nat} (i:fS p) (d:p.a3=cD m a ws::e0) (l:p.refusal (cD m a ws) x=0) (j:a % 8=0) (aq:p.words=[]) (k:a+ws.length<=x.words.length) (h:ws.length<=8):p.step x=(p.done,x.write a ws,some ⟨0,[]⟩):=by
 obtain ⟨n,b,_,_,c⟩:=zS i d l j aq k;have e:p.bz=0:=by omega
 rw [e] at b c;rcases c with c | ⟨_,f,g⟩
 ·omega
 ·have hw:(ws.drop (8 * 0)).take 8=ws:=by rw [Nat.mul_zero,vx,h1 h]
  rw [hw] at b;exact Prod.ext f (Prod.ext b g)
section
variable {E:Env} {A:bu} {bp:List aN} {l:List aK}
theorem ES (ay:cg E) (r:jM E A bp) (w:e8 E A) (z:h5 E A) (n:∀ p ∈ l,p ∈ bM E) (al:(fR E l)[q]?=some v) (F:v.node.toNat=j) (t:bp[j]?=some x) (h:∀ (cH:Nat) (bj:aQ),cH<q->(fR E l)[cH]?=some bj->bj.node.toNat=j->mf E A bj) (G:∀ p ∈ bM E,p ∈ l\/A.bV j (br p)=2) :
  ∃ (a:Nat) (ws:a8) (A':bu),v=cD j (a:Int) ws/\a % 8=0/\ws.length<=8/\a+ws.length<=x.words.length/\jM E A' (bp.set j (x.write a ws))/\e8 E A'/\mf E A' v/\dp E A A'/\(A'.dZ,A'.dj)=(A.dZ,A.dj)/\A'.cM=A.cM/\(∀ m l',A'.bV m l'=A.bV m l'\/1<=m):=by
 obtain ⟨m,hm,d,D⟩:=wD al;have s:j=m+1:=by rw [<-F,d];simp
 subst s;have b:=r.mem _ x t;have J:=b.aU.len;have I:=ay.mE;rcases D with ⟨p,o,rfl⟩ | ⟨rfl,i⟩
 ·have f:=n p o;have H:=ay.pl f;refine ⟨br p * 8,iJ p,A.g2 (m+1) (br p) 2,?_,by omega,by show 8<=8;omega,by show br p * 8+8<=_;omega,r.fr t (b.new ay f) λb4 c y u=>?_,w.jA (by omega) (λ_=>by omega) (λe=>by omega) (λ_=>z) (λ_ e=>by omega) (λ_ _=>rfl),EP ay f ?_,vK λ_=>rfl,rfl,rfl,λk l'=>?_⟩
  ·show cD (m+1) (p.bm * 8) (iJ p)=_;rw [show p.bm * 8=((br p * 8:Nat):Int) by omega]
  ·exact u.same (λp' _=>by simp [bu.g2,c]) rfl rfl rfl rfl (λ_=>rfl)
  ·simp [bu.g2]
  ·simp only [bu.g2];split
   ·rename_i g;exact .inr (by omega)
   ·exact .inl rfl
 ·refine ⟨32,[dd E],A.ly (m+1),rfl,by omega,by simp,by simp;omega,r.fr t (b.ux ay) λb4 c y u=>?_,w.ux z (λe=>by omega) (λ_ p o=>?_),ER ay (by simp [bu.ly]),Ei,rfl,rfl,λk l'=>.inl rfl⟩
  ·exact u.same (λp' _=>rfl) rfl (by simp [bu.ly,c]) rfl rfl (λ_=>rfl)
  ·rcases G p o with g | g
   ·obtain ⟨cH,B,C⟩:=i p g;exact (h cH _ B C (by simp [fO,cD])).1 _ p o rfl
   ·exact g
theorem ET (ay:cg E) (i:jM E A bp) (s:e8 E A) (t:h5 E A) (w:qe E A) (h:∀ p ∈ l,p ∈ bM E) (al:(gd E l)[q]?=some v) (B:v.node.toNat=j) (o:bp[j]?=some x) (g:∀ (cH:Nat) (bj:aQ),cH<q->(gd E l)[cH]?=some bj->bj.node.toNat=j->mf E A bj) :
  ∃ (a:Nat) (ws:a8) (A':bu),j=0/\v=cD j (a:Int) ws/\a % 8=0/\ws.length<=8/\a+ws.length<=x.words.length/\jM E A' (bp.set j (x.write a ws))/\e8 E A'/\mf E A' v/\dp E A A'/\(A'.dZ,A'.dj)=(A.dZ,A.dj)/\A'.cM=A.cM:=by
 obtain ⟨d,z⟩:=wE al;have n:j=0:=by rw [<-B,d];rfl
 subst n;have b:=i.mem _ x o;have G:=b.aU.len;have D:=ay.mE;rcases z with ⟨_,rfl⟩ | ⟨u,p,F,rfl⟩
 ·refine ⟨32,[dd E],A.ly 0,rfl,rfl,by omega,by simp,by simp;omega,i.fr o (b.ux ay) λb4 c y r=>?_,s.ux t (λ_=>w) (λe=>by omega),ER ay (by simp [bu.ly]),Ei,rfl,rfl⟩;exact r.same (λp' _=>rfl) rfl (by simp [bu.ly,c]) rfl rfl (λ_=>rfl)
 ·have f:=h p F;have C:=ay.pl f;have k:=(g 0 (cD 0 32 [dd E]) u rfl rfl).2 0 rfl;refine ⟨br p * 8,iJ p,A.g2 0 (br p) 2,rfl,?_,by omega,by show 8<=8;omega,by show br p * 8+8<=_;omega,i.fr o (b.new ay f) λb4 c y r=>?_,s.jA (by omega) (λe=>by omega) (λe=>by omega) (λ_=>t) (λ_ _=>k) (λe=>by omega),EP ay f ?_,vK λ_=>rfl,rfl,rfl⟩
  ·show cD 0 (p.bm * 8) (iJ p)=_;rw [show p.bm * 8=((br p * 8:Nat):Int) by omega]
  ·exact r.same (λp' _=>by simp [bu.g2,c]) rfl rfl rfl rfl (λ_=>rfl)
  ·simp [bu.g2]
end
end
section
open e7
section
variable {E:Env} {bp:List aN} {i m:Nat} {x gh:aN}
end
end
section
open e7
theorem ey.pl {j:c0} (h:ey E i j) (c:p ∈ j.writes):p.bm=((p.bm.toNat:Nat):Int)/\96<=p.bm.toNat/\p.bm.toNat<E.L:=by obtain ⟨l,e,a,b⟩:=h.line p c;rw [e,fD];exact ⟨rfl,a,b⟩
end
section
open e7
section
variable {E:Env} {i:Nat} {j:c0}
theorem N6 (h:ey E i j) (c:1<=E.n) (al:(dG j)[q]?=some v):(∃ p ∈ j.writes,j.writes[q]?=some p/\v=wW (p.bm * 8) p.Head (eK p.Head i))\/∃ s ∈ j.reads,v=AX (s.bm * 8):=by
 rw [h.Gm c] at al;by_cases a:q<j.writes.length
 ·rw [h3 (by simpa using a),dS,bE a] at al;cases al;exact .inl ⟨_,kY a,bE a,rfl⟩
 ·rw [h4 (by simpa using a),dS] at al;cases b:j.reads[q - (j.writes.map λp=>wW (p.bm * 8) p.Head (eK p.Head i)).length]? with
  |none=>rw [b] at al;cases al
  |some s=>rw [b] at al;cases al;exact .inr ⟨s,b5 b,rfl⟩
end
end
section
open e7
section
variable {n L:Nat} {p:cR} {x:aN} {e0:List aQ}
end
section
variable {E:Env} {i:Nat} {j:c0}
end
end
section
open e7
section
variable {E:Env} {bp:List aN} {i m q:Nat} {p:cR} {x:aN} {v:aQ} {bt:Nat->Option aM} {D:List aM}
end
end
section
open e7
def iR (l:cA):Nat:=(l.pair.a3.map λv=>v.v.pieces.length).sum - l.pair.bz
def iQ (C:bh):Nat:=(C.az.map iR).sum
theorem ze:∀ {l:cT} {i:Nat} {a b:Nat},l[i]?=some a->(l.set i b).sum+a=l.sum+b
 | [],i,a,b,h=>by simp at h
 |x::l,0,a,b,h=>by simp only [rz,fg] at h;subst h;simp only [yG,jI];omega
 |x::l,i+1,a,b,h=>by have:=ze (l:=l) (i:=i) (a:=a) (b:=b) (by simpa using h);simp only [BC,jI];omega
theorem IR {p:cR} (c:fS p) (f:∀ v e0,p.a3=v::e0->p.refusal v n=0) {l':cA} (d:l.pair=p) (b:l'.pair=(p.step n).1) (al:p.a3≠[]):iR l'<iR l:=by
 obtain ⟨v,e0,a⟩:=rv al;have g:=c.hX v e0 a;unfold iR;rw [d,b,vk a (f v e0 a),a];simp only [gj,jI];split
 ·rename_i e;show ((v::e0).map _).sum - (p.bz+1)<_;simp only [gj,jI];omega
 ·show (p.a3.tail.map _).sum - 0<_;rw [a];simp only [List.tail_cons];omega
def v5 (p:cR):Prop:=∀ v e0,p.a3=v::e0->v.kind=2->p.words=[]
theorem Mn {p:cR} (aq:v5 p):v5 (p.step n).1:=by
 unfold cR.step;cases al:p.a3 with
 |nil=>exact aq
 |cons x xs=>
  simp only;split
  ·exact λ_ _ _ _=>rfl
  ·split
   ·intro v e0 e a;have e:x::xs=v::e0:=e;cases e;show p.words++(exec x _ n).2=[];rw [aq x xs al a];unfold exec;rw [if_neg (by omega),if_pos a];rfl
   ·exact λ_ _ _ _=>rfl
def hE (C:bh):Prop:=∀ (k:Nat) (l:cA),C.az[k]?=some l->l.pair.a3=[]
end
section
open e7
def oO:Nat->Nat
 | 0=>106
 | 1=>70
 | 2=>65
 | 3=>13
 | 8=>700
 | _=>0
def cost (vs:List aQ):Nat:=(vs.map λv=>v.v.pieces.length).sum
theorem l0 {k:Nat}:∀ {vs:List aQ},(∀ v ∈ vs,v.v.count.toNat<=k)->cost vs<=vs.length * k
 | [],_=>by simp [cost]
 |v::vs,h=>by
  have a:=l0 λu hu=>h u (fw _ hu)
  have b:=h v eO;have c:v.v.pieces.length<=v.v.count.toNat:=xP _ _ _;unfold cost at a ⊢;simp only [gj,jI,hh];rw [h2];omega
section
variable {E:Env} {i:Nat} {j:c0}
theorem K2 (ay:qj E) (h:ey E i j):cost (nf j)<=555:=by
 have d:=pD j.seq j.writes;have c:=h.eB;have a:cost (nf j)<=(nf j).length * 111:=l0 λv al=>by rw [h.z'] at al;obtain ⟨m,_,rfl⟩:=cZ.1 al;show ((fo j.seq j.writes).length:Int).toNat<=111;omega
 have b:(nf j).length=E.n:=by rw [h.z'];simp
 have:=ay.n;rw [b] at a;omega
theorem K3 (ay:qj E) (h:ey E i j):cost (ng j)<=5:=by
 have a:cost (ng j)<=(ng j).length * 1:=l0 λv al=>by rw [h.AB] at al;obtain ⟨m,_,rfl⟩:=cZ.1 al;exact cY _
 have b:(ng j).length=E.n:=by rw [h.AB];simp
 have:=ay.n;omega
theorem K4 (ay:qj E) (h:ey E i j):cost (dG j)<=36:=by
 have b:cost (dG j)<=(dG j).length * 1:=l0 λv al=>by
  obtain ⟨q,a⟩:=ei.1 al;rcases N6 h ay.n.1 a with ⟨p,_,_,rfl⟩ | ⟨s,_,rfl⟩
  ·exact cY _
  ·exact cY _
 have c:(dG j).length=j.writes.length+j.reads.length:=by unfold dG;simp
 have:=h.eB;have:=h.x4;omega
theorem Fr (ay:qj E) (h:ey E i j):cost (h8 j)<=13:=by
 have k:=h.eB;have c:∀ l:List aK,(∀ p ∈ l,p ∈ j.writes)->cost (l.map (fO 0))<=l.length:=λl a=>by
  induction l with
  |nil=>simp [cost]
  |cons p l f=>
   have:=f λq e=>a q (fw _ e)
   unfold cost at this ⊢;simp only [gj,jI,hh];have b:=h.pl (a p eO);have:(fO 0 p).v.pieces=[(p.bm * 8,8)]:=mt (v:=(fO 0 p).v) (by show (1:Int)<=8;omega) (by show p.bm * 8 % 8+8<=8;omega) (by show 0<=p.bm * 8;omega);rw [this,tn];omega
 have d:=c j.writes λp b=>b
 rw [h.FW ay.n.1];unfold cost at d ⊢;simp only [gj,jI];have g:=h.i6;have:(ow i j.seq 0).v.pieces=[(32+(i:Int),1)]:=mt (v:=(ow i j.seq 0).v) (by show (1:Int)<=1;omega) (by show (32+(i:Int)) % 8+1<=8;omega) (by show 0<=32+(i:Int);omega);rw [this,tn];omega
theorem oF (a b:List aQ):cost (a++b)=cost a+cost b:=by simp [cost]
theorem K5 (ay:qj E) (h:ey E i j):cost (qi j)<=52:=by
 have r:=h.eB;have o:=h.i6;have c:∀ (m:Nat) (l:List aK),(∀ p ∈ l,p ∈ j.writes)->cost (l.map (fO m))<=l.length:=λm l d=>by
  induction l with
  |nil=>simp [cost]
  |cons p l f=>
   have:=f λq g=>d q (fw _ g)
   unfold cost at this ⊢;simp only [gj,jI,hh];have e:=h.pl (d p eO);have:(fO m p).v.pieces=[(p.bm * 8,8)]:=mt (v:=(fO m p).v) (by show (1:Int)<=8;omega) (by show p.bm * 8 % 8+8<=8;omega) (by show 0<=p.bm * 8;omega);rw [this,tn];omega
 have b:∀ m,cost [ow i j.seq m]=1:=λm=>by have:(ow i j.seq m).v.pieces=[(32+(i:Int),1)]:=mt (v:=(ow i j.seq m).v) (by show (1:Int)<=1;omega) (by show (32+(i:Int)) % 8+1<=8;omega) (by show 0<=32+(i:Int);omega);simp [cost,this]
 have a:∀ k:Nat,cost ((List.range k).map λm=>j.writes.map (fO (m+1))++[ow i j.seq (m+1)]).flatten<=k * 13:=λk=>by
  induction k with
  |zero=>simp [cost]
  |succ k f=>
   rw [ku,jn,BH,oF];simp only [gj,vE,hg,List.flatten_nil,jJ];rw [oF,b];have:=c (k+1) j.writes λp e=>e
   omega
 rw [h.FK];have:=a (E.n - 1);have:=ay.n;omega
variable (ay:qj E) (h:ey E i j)
include ay h
end
end
section
open e7
theorem Mo {α:Type} {l:List α} {a:α} (h:l[i]?=some a):l.set i a=l:=by
 apply jK;intro k;by_cases e:i=k
 ·subst e;rw [g5 (b3 h),h]
 ·rw [gN e]
def hd (F:aE) (i:Nat) (C:bh):aE:={ F with aR:=F.aR.set i C }
theorem Ef (a:F.aR[i]?=some C) (b:C.alive=true) (hw:C.waiting=0):F.take (i:Int)=(C.batch,hd F i { C with batch:=none }):=by
 unfold aE.take;rw [h9,a];simp only;rw [if_neg (by rw [b];simp)];cases c:C.batch with
 |none=>
  have e:({ C with batch:=none }:bh)=C:=by rw [<-c]
  simp only;rw [e];unfold hd;rw [Mo a]
 |some ds=>simp only;rw [if_neg (by omega)];rfl
theorem H2 {n L:Nat} {N:Int} (a:(n:Int)=N) (b:n<=5):∀ {vs:List aQ},(∀ v ∈ vs,iw n L v)->jS N L vs=0
 | [],_=>rfl
 |v::vs,h=>by unfold jS;rw [if_neg (by rw [(h v eO).valid N (by omega) (by omega)];simp)];exact H2 a b λu hu=>h u (fw _ hu)
theorem N7 {n:Nat} (b:F.aR[i]?=some C) (d:C.alive=true) (f:C.batch=none) (al:vs≠[]) (j:vs.length<=1024) (h:F.nodes.length=n) (a:n<=5) (c:F.lines=L) (g:∀ v ∈ vs,iw n L v):F.post (i:Int) vs=(0,hd F i (C.j0 vs)):=by
 unfold aE.post;rw [h9,b];simp only;rw [if_neg (by rw [d];simp),if_neg (by rw [f];simp),if_neg (λe=>al (lI.1 e)),if_neg (by omega),if_neg]
 ·rfl
 ·rw [c,H2 (n:=n) (by rw [h]) a g];simp
def fb (t:bJ cv) (C:bh):List (List aM):=match C.batch with
 |none=>t.a7
 |some ds=>t.a7++[ds]
theorem Eg (t:bJ cv) (C:bh):t.Ao C.batch={ t with a7:=fb t C }:=by unfold fb bJ.Ao;cases C.batch<;>rfl
theorem CU {n:Nat} {t:bJ cv} (a:F.aR[i]?=some C) (d:C.alive=true) (hw:C.waiting=0) (b:t.aW=(i:Int)) (r:t.e4=false) (l:(fb t C).length<=200) {o:cv.O} (h:cv.next t.bQ (fb t C)=(vs,o,false)) (al:vs≠[]) (p:vs.length<=1024) (q:F.nodes.length=n) (f:n<=5) (j:F.lines=L) (k:∀ v ∈ vs,iw n L v) :
  bN F t=(hd F i (({ C with batch:=none }:bh).j0 vs),{ t with a7:=fb t C,e4:=false,out:=o }):=by
 have e:F.alive t.aW=true:=by unfold aE.alive;rw [b,h9,a];exact d
 have g:F.waiting t.aW=0:=by unfold aE.waiting;rw [b,h9,a];exact hw
 unfold bN;rw [if_neg (by rw [r,e,g];simp),b,Ef a d hw];simp only;rw [Eg];unfold hG;simp only;rw [if_neg (by omega),h];simp only;rw [if_neg (by simp),b];have c:(hd F i { C with batch:=none }).aR[i]?=some { C with batch:=none }:=g5 (b3 a);rw [N7 (F:=hd F i { C with batch:=none }) c d rfl al p q f j k];rw [if_neg (by simp)];unfold bJ.told;simp only;rw [h];unfold hd;simp only [List.set_set]
theorem CV {t:bJ cv} (b:F.aR[i]?=some C) (e:C.alive=true) (hw:C.waiting=0) (a:t.aW=(i:Int)) (h:t.e4=false) (g:(fb t C).length<=200) {o:cv.O} (f:cv.next t.bQ (fb t C)=([],o,true)) :
  bN F t=(hd F i { C with batch:=none },{ t with a7:=fb t C,e4:=true,out:=o }):=by
 have c:F.alive t.aW=true:=by unfold aE.alive;rw [a,h9,b];exact e
 have d:F.waiting t.aW=0:=by unfold aE.waiting;rw [a,h9,b];exact hw
 unfold bN;rw [if_neg (by rw [h,c,d];simp),a,Ef b e hw];simp only;rw [Eg];unfold hG;simp only;rw [if_neg (by omega),f];simp only;rw [if_pos trivial];unfold bJ.told;simp only;rw [f,a]
theorem N8 {k:Nat} (he:∀ (m:Nat) (l:cA),C.az[m]?=some l->l.pair.bz=0) (h:v.node.toNat<C.az.length):iQ (C.e5 k v)=iQ C+v.v.pieces.length/\∀ (m:Nat) (l:cA),(C.e5 k v).az[m]?=some l->l.pair.bz=0:=by
 have c:∀ m,(C.e5 k v).az[m]?=(C.az[m]?).map λl=>if v.node.toNat=m then (⟨{ l.pair with a3:=l.pair.a3++[v] },l.bC++[k]⟩:cA) else l:=λm=>by
  unfold bh.e5;simp only [rA];cases C.az[m]? with
  |none=>rfl
  |some l=>by_cases e:v.node.toNat=m<;>simp [e]
 obtain ⟨cN,d⟩:∃ l,C.az[v.node.toNat]?=some l:=⟨_,bE h⟩;have f:(C.e5 k v).az.map iR=(C.az.map iR).set v.node.toNat (iR cN+v.v.pieces.length):=by
  apply jK;intro m;rw [dS,c];by_cases e:v.node.toNat=m
  ·subst e;rw [g5 (by simpa using h),d];simp only [mc,if_true];congr 1;have:=he _ cN d;unfold iR;simp [this]
  ·rw [gN e,dS];cases C.az[m]? with
   |none=>rfl
   |some l=>simp [e]
 refine ⟨?_,λm l hm=>?_⟩
 ·unfold iQ;rw [f];have:=ze (l:=C.az.map iR) (i:=v.node.toNat) (a:=iR cN) (b:=iR cN+v.v.pieces.length) (by rw [dS,d];rfl);omega
 ·rw [c] at hm;cases g:C.az[m]? with
  |none=>rw [g] at hm;cases hm
  |some c9=>
   rw [g] at hm;simp only [mc,fg] at hm;subst hm;have:=he m c9 g;split
   ·exact this
   ·exact this
theorem DJ:∀ (vs:List aQ) {C:bh} {k:Nat},(∀ (m:Nat) (l:cA),C.az[m]?=some l->l.pair.bz=0)->(∀ v ∈ vs,v.node.toNat<C.az.length)->iQ (C.fc k vs)=iQ C+cost vs
 | [],C,k,he,a=>by simp [bh.fc,cost]
 |v::vs,C,k,he,a=>by
  obtain ⟨b,c⟩:=N8 (k:=k) he (a v eO);have d:(C.e5 k v).az.length=C.az.length:=by simp [bh.e5]
  have:=DJ vs (k:=k+1) c (λu hu=>by rw [d];exact a u (fw _ hu));show iQ ((C.e5 k v).fc (k+1) vs)=_;rw [this,b];unfold cost;simp only [gj,jI];omega
theorem BX:∀ (vs:List aQ) (C:bh) (k:Nat),(C.fc k vs).az.length=C.az.length/\(C.fc k vs).inc=C.inc
 | [],C,k=>⟨rfl,rfl⟩
 |v::vs,C,k=>by obtain ⟨a,b⟩:=BX vs (C.e5 k v) (k+1);exact ⟨a.trans (by simp [bh.e5]),b⟩
theorem u_ (h:hE C):iQ C=0:=by
 unfold iQ;have:∀ ls:List cA,(∀ l ∈ ls,l.pair.a3=[])->(ls.map iR).sum=0:=λls=>by
  induction ls with
  |nil=>intro _;rfl
  |cons l ls d=>intro a;rw [gj,jI,d λx c=>a x (fw _ c)];unfold iR;rw [a l eO];simp
 exact this C.az λl a=>by obtain ⟨k,b⟩:=ei.1 a;exact h k l b
def dW (F:aE) (i:Nat):Nat:=match F.aR[i]? with
 |some C=>iQ C
 |none=>0
end
section
open e7
theorem lr {α:Type} {l:List α} {a:α} (h:l[i]?=some a):l.set i a=l:=by
 apply jK;intro k;by_cases e:i=k
 ·subst e;rw [g5 (b3 h),h]
 ·rw [gN e]
structure zA (E:Env) (bp:List aN) (i j:Nat) (C:bh) (vs:List aQ) (bt:Nat->Option aM) (l:cA) (x:aN) (v:aQ) (e0:List aQ) (q:Nat) (cl:cT):Prop where
 lane:C.az[j]?=some l
 node:bp[j]?=some x
 hV:l.pair.a3=v::e0
 pl:l.bC=q::cl
 at_:vs[q]?=some v
 nd:v.node.toNat=j
 bt:bt q=none
 pc:l.pair.aW=(i:Int)
 pi:l.pair.inc=1
 b8:fS l.pair
 nz:v5 l.pair
def pa (E:Env) (C:bh) (bp:List aN):Prop:=∀ (k:Nat) (l:cA) (y:aN),C.az[k]?=some l->bp[k]?=some y->∀ i,i<(g3 E).length->i<8 * l.pair.bz->y.get (56+i)=(g3 E).getD i 0
theorem x2 (h:C.az[j]?=some l) (p:cR) (d:Option aM):∃ l',(C.comes j l p d).az[j]?=some l'/\l'.pair=p:=by
 have a:=b3 h;cases d with
 |none=>exact ⟨{ l with pair:=p },by simp [bh.comes,a],rfl⟩
 |some d=>exact ⟨⟨p,l.bC.tail⟩,by simp [bh.comes,a],rfl⟩
theorem pa.step {bp:List aN} (h:pa E C bp) {gh:aN} (o:C.az[j]?=some l) (r:bp[j]?=some x) {p:cR} {d:Option aM} (q:∀ i,i<(g3 E).length->i<8 * p.bz->gh.get (56+i)=(g3 E).getD i 0):pa E (C.comes j l p d) (bp.set j gh):=by
 intro k l' y a b i c he;by_cases e:k=j
 ·subst e;obtain ⟨l2,g,n⟩:=x2 o p d;rw [g] at a;cases a;rw [g5 (b3 r)] at b;cases b;rw [n] at he;exact q i c he
 ·rw [kC e] at a;rw [gN (λf=>e f.symm)] at b;exact h k l' y a b i c he
theorem kH {bt:Nat->Option aM} {a:aM} (h:fr bt q d cH=some a):(cH=q/\a=d)\/(cH≠q/\bt cH=some a):=by
 by_cases e:cH=q
 ·subst e;rw [s3] at h;cases h;exact .inl ⟨rfl,rfl⟩
 ·rw [rG e] at h;exact .inr ⟨e,h⟩
theorem yE {bt:Nat->Option aM} (h:fr bt q d cH=none):cH≠q/\bt cH=none:=by
 by_cases e:cH=q
 ·subst e;rw [s3] at h;cases h
 ·rw [rG e] at h;exact ⟨e,h⟩
section
variable {E:Env} {A:bu} {g:f7}
theorem e1.no (h:e1 E A g) (aq:d.code≠0):e1 E A ⟨g.aC,fr g.bt q d⟩:=by
 have key:∀ {cH b},fr g.bt q d cH=some b->b.code=0->g.bt cH=some b:=λ{cH b} c a=>by
  rcases kH c with ⟨_,e⟩ | ⟨_,e⟩
  ·rw [e] at a;exact absurd a aq
  ·exact e
 unfold e1 at h ⊢;simp only;split at h
 ·exact ⟨h.1,h.2.1,h.2.2.1,λm hm b c a=>h.2.2.2 m hm b (key c a) a⟩
 ·exact ⟨h.1,h.2.1,λcH p i=>⟨λc=>(h.2.2 cH p i).1 (yE c).2,λb c a=>(h.2.2 cH p i).2 b (key c a) a⟩⟩
 ·exact ⟨h.1,h.2.1,λm hm b c a=>h.2.2 m hm b (key c a) a⟩
 ·exact ⟨h.1,λcH v b c a f=>h.2 cH v b c (key a f) f⟩
 ·exact ⟨h.1,h.2.1,λcH v b c a f=>h.2.2 cH v b c (key a f) f⟩
 ·exact h
 ·trivial
theorem nm.add {bt:Nat->Option aM} (h:nm E A vs bt) (al:vs[q]?=some v) (aq:mf E A v):nm E A vs (fr bt q d):=λcH bj b a c f=>by
 rcases kH c with ⟨e,_⟩ | ⟨_,e⟩
 ·subst e;rw [al] at a;cases a;exact aq
 ·exact h cH bj b a e f
theorem ns.add (h:ns E A g) (hm:dp E A A') (al:(d8 E g.aC)[q]?=some v) (aq:(d.code=0/\(d.words.length:Int)=v.v.iW)\/(d.code=5/\d.words=[]/\A'.dj v.node.toNat=true)):ns E A' ⟨g.aC,fr g.bt q d⟩:=λcH i n=>by
 rcases kH n with ⟨j,k⟩ | ⟨_,e⟩
 ·subst j k;exact ⟨v,al,aq⟩
 ·obtain ⟨bj,l,f⟩:=h cH i e;refine ⟨bj,l,?_⟩;rcases f with f | ⟨a,b,c⟩
  ·exact .inl f
  ·exact .inr ⟨a,b,hm.dj _ c⟩
theorem ns.mono (h:ns E A g) (hm:dp E A A'):ns E A' g:=λcH e i=>by
 obtain ⟨bj,f,d⟩:=h cH e i;refine ⟨bj,f,?_⟩;rcases d with d | ⟨a,b,c⟩
 ·exact .inl d
 ·exact .inr ⟨a,b,hm.dj _ c⟩
structure ud (E:Env) (A:bu) (g:f7) (bp:List aN) (j:Nat) (C:bh) (l:cA) (x:aN) (A':bu) (bW:f7):Prop where
 aC:bW.aC=g.aC
 rep:jM E A' (bp.set j (l.pair.step x).2.1)
 law:e8 E A'
 ok:e1 E A' bW
 res:ns E A' bW
 mu:gO (C.comes j l (l.pair.step x).1 (l.pair.step x).2.2) (d8 E g.aC) bW.bt
 jN:g.aC=0->pa E (C.comes j l (l.pair.step x).1 (l.pair.step x).2.2) (bp.set j (l.pair.step x).2.1)
 gE:og E A A'
 stay:A.dj j=true->A'=A/\bp.set j (l.pair.step x).2.1=bp
 Ho:(A'.dZ,A'.dj)=(A.dZ,A.dj)
theorem ud.dZ {E:Env} {A:bu} {g:f7} {bp:List aN} {j:Nat} {C:bh} {l:cA} {x:aN} {A':bu} {bW:f7} (h:ud E A g bp j C l x A' bW):A'.dZ=A.dZ:=congrArg Prod.fst h.Ho
theorem ud.dj {E:Env} {A:bu} {g:f7} {bp:List aN} {j:Nat} {C:bh} {l:cA} {x:aN} {A':bu} {bW:f7} (h:ud E A g bp j C l x A' bW):A'.dj=A.dj:=congrArg Prod.snd h.Ho
theorem vc (hm:dp E A A') (a:j<E.n) (aq:A.dj j=false):og E A A':=
 ⟨hm,λh=>(by have:=h j a;rw [aq] at this;cases this),λh=>(by have:=h j a;rw [aq] at this;cases this)⟩
theorem DK:og E A A:=⟨dp.refl E A,λ_ h=>h,λ_ _ p _ h=>h⟩
theorem zI (ay:cg E) {aC q:Nat} (h:(d8 E aC)[q]?=some v):iw E.n E.L v/\v.v.Kind≠1:=by
 have b:=ay.e.n;have d:=ay.e.L;have c:=ay.lS
 match aC,h with
 | 0,h=>simp only [d8,dS] at h;obtain ⟨m,hm,rfl⟩:=kX.1 h;have:=fs.1 (b5 hm);exact ⟨nh b.2 this (by omega) (by omega) (by omega) (by omega) (by rw [c.1];omega),by show (2:Int)≠1;omega⟩
 | 1,h=>simp only [d8,dS] at h;obtain ⟨p,a,rfl⟩:=kX.1 h;have f:=ay.pl (b5 a);exact ⟨oU b.2 (by omega) (by omega) (by omega) (by omega),by show (3:Int)≠1;omega⟩
 | 2,h=>simp only [d8,dS] at h;obtain ⟨m,hm,rfl⟩:=kX.1 h;have:=fs.1 (b5 hm);exact ⟨nh b.2 this (by omega) (by omega) (by simp) (by simp) (by simp;omega),by show (2:Int)≠1;omega⟩
 | 3,h=>
  obtain ⟨m,hm,_,⟨p,a,rfl⟩ | ⟨rfl,_⟩⟩:=wD h
  ·exact ⟨rL ay hm a,by show (2:Int)≠1;omega⟩
  ·exact ⟨rM ay hm,by show (2:Int)≠1;omega⟩
 |n+4,h=>
  obtain ⟨_,⟨_,rfl⟩ | ⟨_,p,a,rfl⟩⟩:=wE (show (gd E (bM E))[q]?=some v from h)
  ·exact ⟨rM ay (by omega),by show (2:Int)≠1;omega⟩
  ·exact ⟨rL ay (by omega) a,by show (2:Int)≠1;omega⟩
theorem Qj (ay:cg E) {bp:List aN} (S:jM E A bp) (V:e8 E A) (D:e1 E A g) (W:ns E A g) (Yc:g.aC<=4) (Z:gO C (d8 E g.aC) g.bt) (aq:zA E bp 0 j C (d8 E g.aC) g.bt l x v e0 q cl) (Y:g.aC=0->pa E C bp) :
  ∃ A' bW,ud E A g bp j C l x A' bW:=by
 obtain ⟨XK,XN⟩:=zI ay aq.at_;have Yb:=ay.e.n;have o:=S.mem j x aq.node;have F:j<E.n:=by have:=b3 aq.node;rw [S.len] at this;exact this
 have r:=ED o.aU Yb.2 XK (p:=l.pair) (c:=0) aq.pc aq.pi (by omega);rw [if_neg (λe=>XN e.2)] at r;have Yd:=o.aU.len;have Ya:=ay.mE;have fin:∀ {d:aM},(l.pair.step x).1=l.pair.done->(l.pair.step x).2.2=some d->gO (C.comes j l (l.pair.step x).1 (l.pair.step x).2.2) (d8 E g.aC) (fr g.bt q d):=λ{d} z t=>by rw [z,t];exact Z.done aq.lane aq.hV (by show l.pair.a3.tail=e0;rw [aq.hV];rfl) aq.pl d
 have I:(l.pair.step x).1=l.pair.done->g.aC=0->pa E (C.comes j l (l.pair.step x).1 (l.pair.step x).2.2) (bp.set j (l.pair.step x).2.1):=λz t=>(Y t).step aq.lane aq.node λi XL he=>by rw [z] at he;exact absurd he (by show ¬ i<8 * 0;omega)
 cases u:A.dj j with
 |true=>
  rw [if_pos ⟨u,rfl⟩] at r;have b:=zJ aq.hV (x:=x) (by rw [r];omega);rw [r] at b;have z:(l.pair.step x).1=l.pair.done:=by rw [b]
  have t:(l.pair.step x).2.1=x:=by rw [b]
  have O:(l.pair.step x).2.2=some ⟨5,[]⟩:=by rw [b]
  refine ⟨A,⟨g.aC,fr g.bt q ⟨5,[]⟩⟩,rfl,by rw [t,lr aq.node];exact S,V,D.no (by simp),W.add (dp.refl E A) aq.at_ (.inr ⟨rfl,rfl,by rw [aq.nd];exact u⟩),fin z O,I z,DK,λ_=>⟨rfl,by rw [t,lr aq.node]⟩,rfl⟩
 |false=>
  rw [if_neg (λe=>by rw [u] at e;cases e.1)] at r;have X:¬ jq E A:=λh=>by have:=h j F;rw [u] at this;cases this
  have stay:A.dj j=true->∀ {P:Prop},P:=λe=>by rw [u] at e;cases e
  have R:∀ (cH:Nat) (bj:aQ),cH<q->(d8 E g.aC)[cH]?=some bj->bj.node.toNat=j->∃ d,g.bt cH=some d/\d.code=0:=λcH bj z t O=>by
   obtain ⟨d,XB⟩:=Z.before aq.lane aq.pl z t O;obtain ⟨v2,s,G⟩:=W cH d XB;rw [t] at s;cases s;rcases G with G | ⟨_,_,G⟩
   ·exact ⟨d,XB,G.1⟩
   ·rw [O,u] at G;cases G
  have one:∀ {a:Nat} {ws:a8},v=cD j (a:Int) ws->a % 8=0->ws.length<=8->a+ws.length<=x.words.length->l.pair.step x=(l.pair.done,x.write a ws,some ⟨0,[]⟩):=λ{a ws} e X8 Xy X_=>by have M:=aq.hV;rw [e] at M r;exact Fx aq.b8 M r X8 (aq.nz _ _ M rfl) X_ Xy
  obtain e | e | e | e | e:g.aC=0\/g.aC=1\/g.aC=2\/g.aC=3\/g.aC=4:=by omega
  ·
   unfold e1 at D;rw [e] at D;obtain ⟨H,b2,L,X0⟩:=D;have f:=aq.at_;rw [e] at f
   simp only [d8,dS] at f
   obtain ⟨m,hm,rfl⟩:=kX.1 f
   have Xx:m=q:=by have XF:=b3 hm;rw [lJ] at XF;rw [j6 XF] at hm;exact (me hm).symm
   subst Xx;have Xv:m=j:=by have:=aq.nd;simp [cD] at this;exact this
   subst Xv;have X3:=ay.lS;have XC:=aq.nz _ _ aq.hV rfl;obtain ⟨s1,s2,XJ,XZ,Yf⟩:=zS (a:=56) aq.b8 aq.hV r (by omega) XC (by omega);have XG:=Y e m l x aq.lane aq.node;have N:∀ {A':bu},(∀ p ∈ bM E,A'.bV m (br p)=A.bV m (br p))->A'.cM m=A.cM m->A'.dJ m=A.dJ m->A'.dj m=A.dj m->(m=0->A'.dZ=A.dZ)->(A'.ez m=true->∀ k,k<(g3 E).length->(l.pair.step x).2.1.get (56+k)=(g3 E).getD k 0)->Mem E A' m (l.pair.step x).2.1:=λz t O X5 X6 X7=>
    o.low ay XJ (by omega) (by omega) z X5 (.inl (by omega)) (by rw [XJ.get _ (by omega),O];exact o.dJ) (by rw [XJ.get _ (by omega),t];exact o.cM) (λX1=>by rw [XJ.get _ (by omega),X6 X1];exact o.dZ X1) X7
   rcases Yf with ⟨t1,t2,t3⟩ | ⟨t1,t2,t3⟩
   ·refine ⟨A,g,rfl,S.fr aq.node (N (λ_ _=>rfl) rfl rfl rfl (λ_=>rfl) λX3 k XD=>XZ k XD (.inr (o.ez X3 k XD))) (λ_ _ _ h=>h),V,by unfold e1;rw [e];exact ⟨H,b2,L,X0⟩,W,?_,λ_=>(Y e).step aq.lane aq.node λi XL he=>?_,DK,λe=>stay e,rfl⟩
    ·rw [t2,t3];exact Z.more aq.lane rfl
    ·rw [t2] at he;refine XZ i XL ?_;by_cases Xy:i<8 * l.pair.bz
     ·exact .inr (XG i XL Xy)
     ·exact .inl ⟨by omega,he⟩
   ·have Xz:∀ k,k<(g3 E).length->(l.pair.step x).2.1.get (56+k)=(g3 E).getD k 0:=λk XD=>XZ k XD (by
     by_cases Xy:k<8 * l.pair.bz
     ·exact .inr (XG k XD Xy)
     ·exact .inl ⟨by omega,by omega⟩)
    have B:dp E A (A.pR m):=Nq;refine ⟨A.pR m,⟨g.aC,fr g.bt m ⟨0,[]⟩⟩,rfl,S.fr aq.node (N (λ_ _=>rfl) rfl rfl rfl (λ_=>rfl) λ_=>Xz) (λb4 w y XH=>XH.same (λ_ _=>rfl) rfl rfl (by simp [bu.pR,w]) rfl (λ_=>rfl)),V.Rs m,?_,W.add B aq.at_ (.inl ⟨rfl,rfl⟩),fin t2 t3,I t2,vc B F u,λe=>stay e,rfl⟩;unfold e1;simp only [e];refine ⟨H,b2,L,λb4 w d z t=>?_⟩;rcases kH z with ⟨s,_⟩ | ⟨_,s⟩
    ·rw [s];simp [bu.pR]
    ·exact B.ez b4 (X0 b4 w d s t)
  ·
   unfold e1 at D;rw [e] at D;obtain ⟨H,b2,L⟩:=D;have f:=aq.at_;rw [e] at f
   simp only [d8,dS] at f
   obtain ⟨p,J,rfl⟩:=kX.1 f
   have XM:j=0:=by have:=aq.nd;simp [f8] at this;exact this.symm
   subst XM;have U:=b5 J;have X':=ay.pl U;have T:=(L q p J).1 aq.bt;obtain ⟨XI,_⟩:=o.aq ay U (by omega);have XI:=XI T;have M:l.pair.a3=f8 0 ((br p * 8:Nat):Int) p.Head (eK p.Head 0)::e0:=by rw [aq.hV,show p.bm * 8=((br p * 8:Nat):Int) by omega]
   have b:=tX (x:=x) aq.b8 M (by rw [show p.bm * 8=((br p * 8:Nat):Int) by omega] at r;exact r);rw [XI] at b;have XA:x.fx ((br p * 8:Nat):Int) p.Head (eK p.Head 0)={ x with words:=x.words.set (br p * 8) (eK p.Head 0) }:=by unfold aN.fx;rw [fD,if_pos XI]
   rw [XA] at b;have B:dp E A (A.g2 0 (br p) 1):=vK λX2=>by omega
   refine ⟨A.g2 0 (br p) 1,⟨g.aC,fr g.bt q ⟨0,[p.Head]⟩⟩,rfl,by rw [b];exact S.fr aq.node (o.SD ay U T) (λb4 w y XH=>XH.same (λp' _=>by simp [bu.g2,w]) rfl rfl rfl rfl (λ_=>rfl)),V.jA (by omega) (λe=>by omega) (λe=>by omega) (λe=>by omega) (λe=>by omega) (λe=>by omega),?_,W.add B aq.at_ (.inl ⟨rfl,rfl⟩),fin (by rw [b]) (by rw [b]),I (by rw [b]),vc B F u,λe=>stay e,rfl⟩;unfold e1;simp only [e];refine ⟨H,b2,λcH p' K=>⟨λz=>?_,λd z t=>?_⟩⟩
   ·obtain ⟨s,G⟩:=yE z;have XP:br p'≠br p:=λX2=>by
     have:=ay.inj (b5 K) U X2;subst this;have XO:=ay.bQ.nodup;have i1:((bM E).map (·.bm))[cH]?=some p'.bm:=by rw [dS,K];rfl
     have i2:((bM E).map (·.bm))[q]?=some p'.bm:=by rw [dS,J];rfl
     exact s ((yN (b3 i1) XO).1 (i1.trans i2.symm))
    simp only [bu.g2];rw [if_neg (λX4=>XP X4.2)];exact (L cH p' K).1 G
   ·rcases kH z with ⟨s,G⟩ | ⟨_,s⟩
    ·subst s G;rw [J] at K;cases K;exact ⟨rfl,.inl (by simp [bu.g2])⟩
    ·obtain ⟨b1,aB⟩:=(L cH p' K).2 d s t;refine ⟨b1,?_⟩;rcases aB with aB | aB
     ·left;simp only [bu.g2];split
      ·rfl
      ·exact aB
     ·exact absurd aB X
  ·
   unfold e1 at D;rw [e] at D;obtain ⟨H,b2,L⟩:=D;have f:=aq.at_;rw [e] at f
   simp only [d8,dS] at f
   obtain ⟨m,hm,rfl⟩:=kX.1 f
   have Xx:m=q:=by have XF:=b3 hm;rw [lJ] at XF;rw [j6 XF] at hm;exact (me hm).symm
   subst Xx;have Xv:m=j:=by have:=aq.nd;simp [cD] at this;exact this
   subst Xv;have b:=one (a:=48) rfl (by omega) (by simp) (by simp;omega);have T:∀ p ∈ bM E,A.bV 0 (br p)≠0:=λp J=>by
    by_cases XE:gk E A
    ·rcases b2 XE with s | s
     ·rw [s p J];omega
     ·exact absurd s X
    ·have:∃ m,m<E.n/\A.cM m=true:=by
      refine Classical.byContradiction λX9=>XE λm hm=>?_
      cases Xw:A.cM m with
      |false=>rfl
      |true=>exact absurd ⟨m,hm,Xw⟩ X9
     obtain ⟨b4,w,Xw⟩:=this;exact (V.l2 b4 w Xw).2 p J
   have B:dp E A (A.jF m):=Eh;refine ⟨A.jF m,⟨g.aC,fr g.bt m ⟨0,[]⟩⟩,rfl,by rw [b];exact S.fr aq.node (o.uN ay) (λb4 w y XH=>XH.same (λp' _=>rfl) (by simp [bu.jF,w]) rfl rfl rfl (λ_=>rfl)),V.uN H T m,?_,W.add B aq.at_ (.inl ⟨rfl,rfl⟩),fin (by rw [b]) (by rw [b]),I (by rw [b]),vc B F u,λe=>stay e,rfl⟩;unfold e1;simp only [e];refine ⟨H,λXQ=>?_,λb4 w d z t=>?_⟩
   ·have:=XQ m F;simp [bu.jF] at this
   ·rcases kH z with ⟨s,_⟩ | ⟨_,s⟩
    ·rw [s];simp [bu.jF]
    ·exact B.cM b4 (L b4 w d s t)
  ·
   unfold e1 at D;rw [e] at D;obtain ⟨H,b2⟩:=D;have f:=aq.at_;rw [e] at f R;obtain ⟨a,ws,A',r1,XS,XT,XU,XV,XW,XX,Q,XY,XR,Ye⟩:=ES ay S V H (λp J=>J) f aq.nd aq.node (λcH bj z t O=>by obtain ⟨d,s,G⟩:=R cH bj z t O;exact b2 cH bj d t s G) λp J=>.inl J
   have b:=one r1 XS XT XU;refine ⟨A',⟨g.aC,fr g.bt q ⟨0,[]⟩⟩,rfl,by rw [b];exact XV,XW,?_,W.add Q aq.at_ (.inl ⟨rfl,by rw [r1];rfl⟩),fin (by rw [b]) (by rw [b]),I (by rw [b]),vc Q F u,λe=>stay e,XY⟩;unfold e1;simp only [e];exact ⟨Q.am H,(b2.mono Q).add f XX⟩
  ·
   unfold e1 at D;rw [e] at D;obtain ⟨H,b2,L⟩:=D;have f:=aq.at_;rw [e] at f R;obtain ⟨a,ws,A',Yg,r1,XS,XT,XU,XV,XW,XX,Q,XY,XR⟩:=ET ay S V H b2 (λp J=>J) f aq.nd aq.node (λcH bj z t O=>by obtain ⟨d,s,G⟩:=R cH bj z t O;exact L cH bj d t s G);have b:=one r1 XS XT XU;refine ⟨A',⟨g.aC,fr g.bt q ⟨0,[]⟩⟩,rfl,by rw [b];exact XV,XW,?_,W.add Q aq.at_ (.inl ⟨rfl,by rw [r1];rfl⟩),fin (by rw [b]) (by rw [b]),I (by rw [b]),vc Q F u,λe=>stay e,XY⟩;unfold e1;simp only [e];exact ⟨Q.am H,Q.qE b2,(L.mono Q).add f XX⟩
end
end
end Go.Proofs.YtmkljjbioomepaaGreat
