import Derived.Test.YtmkljjbioomepaaGreatb35
import Derived.Test.YtmkljjbioomepaaGreatb23
set_option linter.all false
set_option maxHeartbeats 4000000
set_option maxRecDepth 100000
namespace Go.Proofs.YtmkljjbioomepaaGreat
open Go.Proofs.Tryz Go.bu
variable {A A':bt} {C:bU} {E:Env} {F:aN} {L i j m bW q cy:Nat} {jD:Conv} {d:aO} {l:cS} {n x:aZ} {p:aK} {ch:cP} {v:aW} {vs eX:List aW} {ws:bd}
section
open e7
theorem vy {α:Type} {k:Nat} (g:0<k):∀ {hj:List (List α)} {q:Nat} {v:α},(∀ b ∈ hj,b.length=k)->hj.flatten[q]?=some v->∃ (i:Nat) (b:List α),hj[i]?=some b/\i * k<=q/\b[q - i * k]?=some v
 | [],q,v,_,h=>by simp at h
 |b::hj,q,v,a,h=>by
  have n:=a b e2;rw [gV] at h;by_cases j:q<b.length
  ·rw [hU j] at h;exact ⟨0,b,rfl,by omega,by simpa using h⟩
  ·rw [hV (by omega)] at h;obtain ⟨i,c,d,l,e⟩:=vy g (λc f=>a c (fu _ f)) h;refine ⟨i+1,c,by simpa using d,by rw [hT];omega,?_⟩;rw [hT,<-e];congr 1;omega
theorem s9 {α:Type} {k:Nat}:∀ {hj:List (List α)} {i r:Nat} {b:List α} {v:α},(∀ b ∈ hj,b.length=k)->hj[i]?=some b->b[r]?=some v->hj.flatten[i * k+r]?=some v
 | [],i,r,b,v,_,h,_=>by simp at h
 |c::hj,0,r,b,v,d,h,a=>by simp at h;subst h;rw [gV,hU (by have:=cb a;omega),vd,g6];exact a
 |c::hj,i+1,r,b,v,d,h,a=>by have f:=d c e2;rw [gV,hV (by rw [hT];omega),f,hT,show i * k+k+r - k=i * k+r by omega];exact s9 (λc e=>d c (fu _ e)) (by simpa using h) a
theorem gC.before {bw:Nat->Option aO} (h:gC C vs bw) (f:C.aD[j]?=some l) (g:l.bR=q::ch) {bj:aW} (k:cy<q) (al:vs[cy]?=some bj) (n:bj.node.toNat=j):∃ d,bw cy=some d:=by
 cases ar:bw cy with
 |some d=>exact ⟨d,rfl⟩
 |none=>
  exfalso;obtain ⟨p,l',a,hm⟩:=h.left cy (cb al) ar;obtain ⟨t,o⟩:=eh.1 hm;obtain ⟨v,c,_,i,_⟩:=(h.lane p l' a).at_ t cy o
  rw [al] at c;cases c;rw [<-i,n] at a;rw [f] at a;cases a;have b:=(h.lane j l f).wx;rw [g,Ba] at b;rw [g] at hm;rcases e6.1 hm with e | e
  ·omega
  ·have:=b.1 cy e;omega
section
variable {E:Env} {l:List aK}
theorem wi (h:(fK E l)[q]?=some v):∃ m,m+1<E.n/\v.node=((m+1:Nat):Int)/\((∃ p ∈ l,v=fG (m+1) p)\/(v=cx (m+1) 32 [c_ E]/\∀ p ∈ l,∃ cy,cy<q/\(fK E l)[cy]?=some (fG (m+1) p))):=by
 have e:∀ b ∈ (List.range (E.n - 1)).map (λm=>l.map (fG (m+1))++[cx (m+1) 32 [c_ E]]),b.length=l.length+1:=λb e=>by obtain ⟨m,_,rfl⟩:=cT.1 e;simp
 obtain ⟨i,b,c,t,a⟩:=vy (by omega) e h;have k:=cb c;simp only [ft,ly] at k;have f:=c;rw [dR,kk k] at c;simp only [mW,fe] at c;subst c;refine ⟨i,by omega,?_⟩;by_cases o:q - i * (l.length+1)<l.length
 ·rw [hU (by simpa using o),dR] at a;obtain ⟨p,g,rfl⟩:=kP.1 a;exact ⟨rfl,.inl ⟨p,b7 g,rfl⟩⟩
 ·rw [hV (by simpa using o)] at a;have:=cb a;simp only [ft,th] at this;have s:q - i * (l.length+1) - (l.map (fG (i+1))).length=0:=by simp only [ft];omega
  rw [s] at a;simp only [rp,fe] at a;subst a;refine ⟨rfl,.inr ⟨rfl,λp g=>?_⟩⟩;obtain ⟨r,d⟩:=eh.1 g;have j:=cb d;refine ⟨i * (l.length+1)+r,by omega,s9 e f ?_⟩;rw [hU (by simpa using j),dR,d];rfl
theorem wj (h:(f0 E l)[q]?=some v):v.node=0/\((q=0/\v=cx 0 32 [c_ E])\/(0<q/\∃ p ∈ l,v=fG 0 p)):=by
 cases q with
 |zero=>simp [f0] at h;subst h;exact ⟨rfl,.inl ⟨rfl,rfl⟩⟩
 |succ q=>unfold f0 at h;rw [nY,dR] at h;obtain ⟨p,a,rfl⟩:=kP.1 h;exact ⟨rfl,.inr ⟨by omega,p,b7 a,rfl⟩⟩
theorem Pb {p':aK} (h:fG m p=fG bW p') (d:0<=p.bo) (a:0<=p'.bo):m=bW/\br p=br p':=by
 have b:(m:Int)=bW:=congrArg aW.node h;have c:p.bo * 8=p'.bo * 8:=congrArg aW.at_ h;refine ⟨by omega,?_⟩;show p.bo.toNat=p'.bo.toNat
 have:p.bo=p'.bo:=by omega
 rw [this]
theorem Ek (b:96<=p.bo):fG m p≠cx bW 32 [c_ E]:=λh=>by have a:p.bo * 8=32:=congrArg aW.at_ h;omega
theorem U' {a:Int} (h:cx m a ws=cx bW a ws):m=bW:=by have b:(m:Int)=bW:=congrArg aW.node h;omega
theorem El (ay:b8 E) (f:p ∈ bI E) (h:A.bQ m (br p)=2):l3 E A (fG m p):=by have g:=ay.pl f;refine ⟨λbW p' c e=>?_,λbW e=>absurd e (Ek (by omega))⟩;have d:=ay.pl c;obtain ⟨a,b⟩:=Pb e (by omega) (by omega);rw [<-a,<-b];exact h
theorem Em (ay:b8 E) (h:A.dJ m=true):l3 E A (cx m 32 [c_ E]):=by refine ⟨λbW p' a e=>absurd e.symm (Ek (by have:=ay.pl a;omega)),λbW e=>?_⟩;rw [<-U' e];exact h
theorem rD (ay:b8 E) (hm:m<E.n) (b:p ∈ bI E):ic E.n E.L (fG m p):=by have d:=ay.pl b;have a:=ay.e.n;have c:=ay.e.L;exact nV a.2 hm (by omega) (by omega) (by show 1<=8;omega) (by show 8<=1000;omega) (by show p.bo * 8+(8:Int)<=_;omega)
theorem rE (ay:b8 E) (hm:m<E.n):ic E.n E.L (cx m 32 [c_ E]):=by have a:=ay.e.n;have b:=ay.e.L;exact nV a.2 hm (by omega) (by omega) (by simp) (by simp) (by simp;omega)
end
theorem ER {p:dg} {a:Nat} (i:fL p) (d:p.ba=cx m a ws::eX) (l:p.refusal (cx m a ws) x=0) (j:a % 8=0) (ar:p.words=[]) (k:a+ws.length<=x.words.length) (h:ws.length<=8):p.step x=(p.done,x.write a ws,some ⟨0,[]⟩):=by
 obtain ⟨n,b,_,_,c⟩:=zD i d l j ar k;have e:p.bF=0:=by omega
 rw [e] at b c;rcases c with c | ⟨_,f,g⟩
 ·omega
 ·have hw:(ws.drop (8 * 0)).take 8=ws:=by rw [Nat.mul_zero,td,hS h]
  rw [hw] at b;exact Prod.ext f (Prod.ext b g)
section
variable {E:Env} {A:bt} {bB:List aZ} {l:List aK}
theorem En (ay:b8 E) (r:jA E A bB) (w:e8 E A) (z:hX E A) (n:∀ p ∈ l,p ∈ bI E) (al:(fK E l)[q]?=some v) (F:v.node.toNat=j) (t:bB[j]?=some x) (h:∀ (cy:Nat) (bj:aW),cy<q->(fK E l)[cy]?=some bj->bj.node.toNat=j->l3 E A bj) (G:∀ p ∈ bI E,p ∈ l\/A.bQ j (br p)=2) :
  ∃ (a:Nat) (ws:bd) (A':bt),v=cx j (a:Int) ws/\a % 8=0/\ws.length<=8/\a+ws.length<=x.words.length/\jA E A' (bB.set j (x.write a ws))/\e8 E A'/\l3 E A' v/\dp E A A'/\(A'.dW,A'.dj)=(A.dW,A.dj)/\A'.cG=A.cG/\(∀ m l',A'.bQ m l'=A.bQ m l'\/1<=m):=by
 obtain ⟨m,hm,d,D⟩:=wi al;have s:j=m+1:=by rw [<-F,d];simp
 subst s;have b:=r.mem _ x t;have J:=b.aP.len;have I:=ay.mr;rcases D with ⟨p,o,rfl⟩ | ⟨rfl,i⟩
 ·have f:=n p o;have H:=ay.pl f;refine ⟨br p * 8,ix p,A.gR (m+1) (br p) 2,?_,by omega,by show 8<=8;omega,by show br p * 8+8<=_;omega,r.fl t (b.new ay f) λbW c y u=>?_,w.jn (by omega) (λ_=>by omega) (λe=>by omega) (λ_=>z) (λ_ e=>by omega) (λ_ _=>rfl),El ay f ?_,vH λ_=>rfl,rfl,rfl,λk l'=>?_⟩
  ·show cx (m+1) (p.bo * 8) (ix p)=_;rw [show p.bo * 8=((br p * 8:Nat):Int) by omega]
  ·exact u.same (λp' _=>by simp [bt.gR,c]) rfl rfl rfl rfl (λ_=>rfl)
  ·simp [bt.gR]
  ·simp only [bt.gR];split
   ·rename_i g;exact .inr (by omega)
   ·exact .inl rfl
 ·refine ⟨32,[c_ E],A.lj (m+1),rfl,by omega,by simp,by simp;omega,r.fl t (b.ui ay) λbW c y u=>?_,w.ui z (λe=>by omega) (λ_ p o=>?_),Em ay (by simp [bt.lj]),DE,rfl,rfl,λk l'=>.inl rfl⟩
  ·exact u.same (λp' _=>rfl) rfl (by simp [bt.lj,c]) rfl rfl (λ_=>rfl)
  ·rcases G p o with g | g
   ·obtain ⟨cy,B,C⟩:=i p g;exact (h cy _ B C (by simp [fG,cx])).1 _ p o rfl
   ·exact g
theorem Eo (ay:b8 E) (i:jA E A bB) (s:e8 E A) (t:hX E A) (w:qa E A) (h:∀ p ∈ l,p ∈ bI E) (al:(f0 E l)[q]?=some v) (B:v.node.toNat=j) (o:bB[j]?=some x) (g:∀ (cy:Nat) (bj:aW),cy<q->(f0 E l)[cy]?=some bj->bj.node.toNat=j->l3 E A bj) :
  ∃ (a:Nat) (ws:bd) (A':bt),j=0/\v=cx j (a:Int) ws/\a % 8=0/\ws.length<=8/\a+ws.length<=x.words.length/\jA E A' (bB.set j (x.write a ws))/\e8 E A'/\l3 E A' v/\dp E A A'/\(A'.dW,A'.dj)=(A.dW,A.dj)/\A'.cG=A.cG:=by
 obtain ⟨d,z⟩:=wj al;have n:j=0:=by rw [<-B,d];rfl
 subst n;have b:=i.mem _ x o;have G:=b.aP.len;have D:=ay.mr;rcases z with ⟨_,rfl⟩ | ⟨u,p,F,rfl⟩
 ·refine ⟨32,[c_ E],A.lj 0,rfl,rfl,by omega,by simp,by simp;omega,i.fl o (b.ui ay) λbW c y r=>?_,s.ui t (λ_=>w) (λe=>by omega),Em ay (by simp [bt.lj]),DE,rfl,rfl⟩;exact r.same (λp' _=>rfl) rfl (by simp [bt.lj,c]) rfl rfl (λ_=>rfl)
 ·have f:=h p F;have C:=ay.pl f;have k:=(g 0 (cx 0 32 [c_ E]) u rfl rfl).2 0 rfl;refine ⟨br p * 8,ix p,A.gR 0 (br p) 2,rfl,?_,by omega,by show 8<=8;omega,by show br p * 8+8<=_;omega,i.fl o (b.new ay f) λbW c y r=>?_,s.jn (by omega) (λe=>by omega) (λe=>by omega) (λ_=>t) (λ_ _=>k) (λe=>by omega),El ay f ?_,vH λ_=>rfl,rfl,rfl⟩
  ·show cx 0 (p.bo * 8) (ix p)=_;rw [show p.bo * 8=((br p * 8:Nat):Int) by omega]
  ·exact r.same (λp' _=>by simp [bt.gR,c]) rfl rfl rfl rfl (λ_=>rfl)
  ·simp [bt.gR]
end
end
section
open e7
section
variable {E:Env} {bB:List aZ} {i m:Nat} {x fT:aZ}
end
end
section
open e7
theorem ey.pl {j:cU} (h:ey E i j) (c:p ∈ j.writes):p.bo=((p.bo.toNat:Nat):Int)/\96<=p.bo.toNat/\p.bo.toNat<E.L:=by obtain ⟨l,e,a,b⟩:=h.line p c;rw [e,fU];exact ⟨rfl,a,b⟩
end
section
open e7
section
variable {E:Env} {i:Nat} {j:cU}
theorem MP (h:ey E i j) (c:1<=E.n) (al:(dC j)[q]?=some v):(∃ p ∈ j.writes,j.writes[q]?=some p/\v=wD (p.bo * 8) p.Head (eK p.Head i))\/∃ s ∈ j.reads,v=Ay (s.bo * 8):=by
 rw [h.FX c] at al;by_cases a:q<j.writes.length
 ·rw [hU (by simpa using a),dR,bD a] at al;cases al;exact .inl ⟨_,jS a,bD a,rfl⟩
 ·rw [hV (by simpa using a),dR] at al;cases b:j.reads[q - (j.writes.map λp=>wD (p.bo * 8) p.Head (eK p.Head i)).length]? with
  |none=>rw [b] at al;cases al
  |some s=>rw [b] at al;cases al;exact .inr ⟨s,b7 b,rfl⟩
end
end
section
open e7
section
variable {n L:Nat} {p:dg} {x:aZ} {eX:List aW}
end
section
variable {E:Env} {i:Nat} {j:cU}
end
end
section
open e7
section
variable {E:Env} {bB:List aZ} {i m q:Nat} {p:dg} {x:aZ} {v:aW} {bw:Nat->Option aO} {D:List aO}
end
end
section
open e7
def iI (l:cS):Nat:=(l.pair.ba.map λv=>v.v.pieces.length).sum - l.pair.bF
def iH (C:bU):Nat:=(C.aD.map iI).sum
theorem y8:∀ {l:cP} {i:Nat} {a b:Nat},l[i]?=some a->(l.set i b).sum+a=l.sum+b
 | [],i,a,b,h=>by simp at h
 |x::l,0,a,b,h=>by simp only [rp,fe] at h;subst h;simp only [ym,jR];omega
 |x::l,i+1,a,b,h=>by have:=y8 (l:=l) (i:=i) (a:=a) (b:=b) (by simpa using h);simp only [Bd,jR];omega
theorem KL {p:dg} (c:fL p) (f:∀ v eX,p.ba=v::eX->p.refusal v n=0) {l':cS} (d:l.pair=p) (b:l'.pair=(p.step n).1) (al:p.ba≠[]):iI l'<iI l:=by
 obtain ⟨v,eX,a⟩:=rm al;have g:=c.hO v eX a;unfold iI;rw [d,b,u7 a (f v eX a),a];simp only [f9,jR];split
 ·rename_i e;show ((v::eX).map _).sum - (p.bF+1)<_;simp only [f9,jR];omega
 ·show (p.ba.tail.map _).sum - 0<_;rw [a];simp only [List.tail_cons];omega
def vK (p:dg):Prop:=∀ v eX,p.ba=v::eX->v.kind=2->p.words=[]
theorem L5 {p:dg} (ar:vK p):vK (p.step n).1:=by
 unfold dg.step;cases al:p.ba with
 |nil=>exact ar
 |cons x xs=>
  simp only;split
  ·exact λ_ _ _ _=>rfl
  ·split
   ·intro v eX e a;have e:x::xs=v::eX:=e;cases e;show p.words++(exec x _ n).2=[];rw [ar x xs al a];unfold exec;rw [if_neg (by omega),if_pos a];rfl
   ·exact λ_ _ _ _=>rfl
def VT (vs:List aW) (bw:Nat->Option aO):Prop:=∀ q d,bw q=some d->∃ v,vs[q]?=some v/\d.code=0/\(d.words.length:Int)=v.v.iq
def hr (C:bU):Prop:=∀ (k:Nat) (l:cS),C.aD[k]?=some l->l.pair.ba=[]
def V0 (n:Nat):Nat->Nat
 | 0=>1
 | 1=>2
 | 2=>3
 | 3=>4
 | 4=>if n=1 then 4 else 5
 | 6=>if n=1 then 4 else 5
 | _=>0
end
section
open e7
def oJ:Nat->Nat
 | 0=>106
 | 1=>70
 | 2=>65
 | 3=>13
 | 8=>700
 | _=>0
def cost (vs:List aW):Nat:=(vs.map λv=>v.v.pieces.length).sum
theorem lO {k:Nat}:∀ {vs:List aW},(∀ v ∈ vs,v.v.count.toNat<=k)->cost vs<=vs.length * k
 | [],_=>by simp [cost]
 |v::vs,h=>by
  have a:=lO λu hu=>h u (fu _ hu)
  have b:=h v e2;have c:v.v.pieces.length<=v.v.count.toNat:=xz _ _ _;unfold cost at a ⊢;simp only [f9,jR,g7];rw [hT];omega
section
variable {E:Env} {i:Nat} {j:cU}
theorem KM (ay:qb E) (h:ey E i j):cost (nT j)<=555:=by
 have d:=pA j.seq j.writes;have c:=h.eD;have a:cost (nT j)<=(nT j).length * 111:=lO λv al=>by rw [h.zT] at al;obtain ⟨m,_,rfl⟩:=cT.1 al;show ((fi j.seq j.writes).length:Int).toNat<=111;omega
 have b:(nT j).length=E.n:=by rw [h.zT];simp
 have:=ay.n;rw [b] at a;omega
theorem KN (ay:qb E) (h:ey E i j):cost (nU j)<=5:=by
 have a:cost (nU j)<=(nU j).length * 1:=lO λv al=>by rw [h.Ag] at al;obtain ⟨m,_,rfl⟩:=cT.1 al;exact cQ _
 have b:(nU j).length=E.n:=by rw [h.Ag];simp
 have:=ay.n;omega
theorem KO (ay:qb E) (h:ey E i j):cost (dC j)<=36:=by
 have b:cost (dC j)<=(dC j).length * 1:=lO λv al=>by
  obtain ⟨q,a⟩:=eh.1 al;rcases MP h ay.n.1 a with ⟨p,_,_,rfl⟩ | ⟨s,_,rfl⟩
  ·exact cQ _
  ·exact cQ _
 have c:(dC j).length=j.writes.length+j.reads.length:=by unfold dC;simp
 have:=h.eD;have:=h.xM;omega
theorem Db (ay:qb E) (h:ey E i j):cost (h1 j)<=13:=by
 have k:=h.eD;have c:∀ l:List aK,(∀ p ∈ l,p ∈ j.writes)->cost (l.map (fG 0))<=l.length:=λl a=>by
  induction l with
  |nil=>simp [cost]
  |cons p l f=>
   have:=f λq e=>a q (fu _ e)
   unfold cost at this ⊢;simp only [f9,jR,g7];have b:=h.pl (a p e2);have:(fG 0 p).v.pieces=[(p.bo * 8,8)]:=qS (v:=(fG 0 p).v) (by show (1:Int)<=8;omega) (by show p.bo * 8 % 8+8<=8;omega) (by show 0<=p.bo * 8;omega);rw [this,th];omega
 have d:=c j.writes λp b=>b
 rw [h.Fl ay.n.1];unfold cost at d ⊢;simp only [f9,jR];have g:=h.i6;have:(oq i j.seq 0).v.pieces=[(32+(i:Int),1)]:=qS (v:=(oq i j.seq 0).v) (by show (1:Int)<=1;omega) (by show (32+(i:Int)) % 8+1<=8;omega) (by show 0<=32+(i:Int);omega);rw [this,th];omega
theorem oB (a b:List aW):cost (a++b)=cost a+cost b:=by simp [cost]
theorem KP (ay:qb E) (h:ey E i j):cost (qf j)<=52:=by
 have r:=h.eD;have o:=h.i6;have c:∀ (m:Nat) (l:List aK),(∀ p ∈ l,p ∈ j.writes)->cost (l.map (fG m))<=l.length:=λm l d=>by
  induction l with
  |nil=>simp [cost]
  |cons p l f=>
   have:=f λq g=>d q (fu _ g)
   unfold cost at this ⊢;simp only [f9,jR,g7];have e:=h.pl (d p e2);have:(fG m p).v.pieces=[(p.bo * 8,8)]:=qS (v:=(fG m p).v) (by show (1:Int)<=8;omega) (by show p.bo * 8 % 8+8<=8;omega) (by show 0<=p.bo * 8;omega);rw [this,th];omega
 have b:∀ m,cost [oq i j.seq m]=1:=λm=>by have:(oq i j.seq m).v.pieces=[(32+(i:Int),1)]:=qS (v:=(oq i j.seq m).v) (by show (1:Int)<=1;omega) (by show (32+(i:Int)) % 8+1<=8;omega) (by show 0<=32+(i:Int);omega);simp [cost,this]
 have a:∀ k:Nat,cost ((List.range k).map λm=>j.writes.map (fG (m+1))++[oq i j.seq (m+1)]).flatten<=k * 13:=λk=>by
  induction k with
  |zero=>simp [cost]
  |succ k f=>
   rw [ki,ja,Bi,oB];simp only [f9,tj,gV,List.flatten_nil,i'];rw [oB,b];have:=c (k+1) j.writes λp e=>e
   omega
 rw [h.Fa];have:=a (E.n - 1);have:=ay.n;omega
variable (ay:qb E) (h:ey E i j)
include ay h
end
end
section
open e7
theorem L6 {α:Type} {l:List α} {a:α} (h:l[i]?=some a):l.set i a=l:=by
 apply kj;intro k;by_cases e:i=k
 ·subst e;rw [jy (cb h),h]
 ·rw [hW e]
def g3 (F:aN) (i:Nat) (C:bU):aN:={ F with aV:=F.aV.set i C }
theorem DW (a:F.aV[i]?=some C) (b:C.alive=true) (hw:C.waiting=0):F.take (i:Int)=(C.batch,g3 F i { C with batch:=none }):=by
 unfold aN.take;rw [jK,a];simp only;rw [if_neg (by rw [b];simp)];cases c:C.batch with
 |none=>
  have e:({ C with batch:=none }:bU)=C:=by rw [<-c]
  simp only;rw [e];unfold g3;rw [L6 a]
 |some ds=>simp only;rw [if_neg (by omega)];rfl
theorem HA {n L:Nat} {N:Int} (a:(n:Int)=N) (b:n<=5):∀ {vs:List aW},(∀ v ∈ vs,ic n L v)->jF N L vs=0
 | [],_=>rfl
 |v::vs,h=>by unfold jF;rw [if_neg (by rw [(h v e2).valid N (by omega) (by omega)];simp)];exact HA a b λu hu=>h u (fu _ hu)
theorem MQ {n:Nat} (b:F.aV[i]?=some C) (d:C.alive=true) (f:C.batch=none) (al:vs≠[]) (j:vs.length<=1024) (h:F.nodes.length=n) (a:n<=5) (c:F.lines=L) (g:∀ v ∈ vs,ic n L v):F.post (i:Int) vs=(0,g3 F i (C.kD vs)):=by
 unfold aN.post;rw [jK,b];simp only;rw [if_neg (by rw [d];simp),if_neg (by rw [f];simp),if_neg (λe=>al (nZ.1 e)),if_neg (by omega),if_neg]
 ·rfl
 ·rw [c,HA (n:=n) (by rw [h]) a g];simp
def fb (t:b_ jD) (C:bU):List (List aO):=match C.batch with
 |none=>t.a4
 |some ds=>t.a4++[ds]
theorem DX (t:b_ jD) (C:bU):t.z6 C.batch={ t with a4:=fb t C }:=by unfold fb b_.z6;cases C.batch<;>rfl
theorem BP {n:Nat} {t:b_ jD} (a:F.aV[i]?=some C) (d:C.alive=true) (hw:C.waiting=0) (b:t.a1=(i:Int)) (r:t.e0=false) (l:(fb t C).length<=200) {o:jD.O} (h:jD.next t.bM (fb t C)=(vs,o,false)) (al:vs≠[]) (p:vs.length<=1024) (q:F.nodes.length=n) (f:n<=5) (j:F.lines=L) (k:∀ v ∈ vs,ic n L v) :
  cZ F t=(g3 F i (({ C with batch:=none }:bU).kD vs),{ t with a4:=fb t C,e0:=false,out:=o }):=by
 have e:F.alive t.a1=true:=by unfold aN.alive;rw [b,jK,a];exact d
 have g:F.waiting t.a1=0:=by unfold aN.waiting;rw [b,jK,a];exact hw
 unfold cZ;rw [if_neg (by rw [r,e,g];simp),b,DW a d hw];simp only;rw [DX];unfold kM;simp only;rw [if_neg (by omega),h];simp only;rw [if_neg (by simp),b];have c:(g3 F i { C with batch:=none }).aV[i]?=some { C with batch:=none }:=jy (cb a);rw [MQ (F:=g3 F i { C with batch:=none }) c d rfl al p q f j k];rw [if_neg (by simp)];unfold b_.told;simp only;rw [h];unfold g3;simp only [List.set_set]
theorem Ch {t:b_ jD} (b:F.aV[i]?=some C) (e:C.alive=true) (hw:C.waiting=0) (a:t.a1=(i:Int)) (h:t.e0=false) (g:(fb t C).length<=200) {o:jD.O} (f:jD.next t.bM (fb t C)=([],o,true)) :
  cZ F t=(g3 F i { C with batch:=none },{ t with a4:=fb t C,e0:=true,out:=o }):=by
 have c:F.alive t.a1=true:=by unfold aN.alive;rw [a,jK,b];exact e
 have d:F.waiting t.a1=0:=by unfold aN.waiting;rw [a,jK,b];exact hw
 unfold cZ;rw [if_neg (by rw [h,c,d];simp),a,DW b e hw];simp only;rw [DX];unfold kM;simp only;rw [if_neg (by omega),f];simp only;rw [if_pos trivial];unfold b_.told;simp only;rw [f,a]
theorem NO {k:Nat} (he:∀ (m:Nat) (l:cS),C.aD[m]?=some l->l.pair.bF=0) (h:v.node.toNat<C.aD.length):iH (C.gu k v)=iH C+v.v.pieces.length/\∀ (m:Nat) (l:cS),(C.gu k v).aD[m]?=some l->l.pair.bF=0:=by
 have c:∀ m,(C.gu k v).aD[m]?=(C.aD[m]?).map λl=>if v.node.toNat=m then (⟨{ l.pair with ba:=l.pair.ba++[v] },l.bR++[k]⟩:cS) else l:=λm=>by
  unfold bU.gu;simp only [te];cases C.aD[m]? with
  |none=>rfl
  |some l=>by_cases e:v.node.toNat=m<;>simp [e]
 obtain ⟨cY,d⟩:∃ l,C.aD[v.node.toNat]?=some l:=⟨_,bD h⟩;have f:(C.gu k v).aD.map iI=(C.aD.map iI).set v.node.toNat (iI cY+v.v.pieces.length):=by
  apply kj;intro m;rw [dR,c];by_cases e:v.node.toNat=m
  ·subst e;rw [jy (by simpa using h),d];simp only [mW,if_true];congr 1;have:=he _ cY d;unfold iI;simp [this]
  ·rw [hW e,dR];cases C.aD[m]? with
   |none=>rfl
   |some l=>simp [e]
 refine ⟨?_,λm l hm=>?_⟩
 ·unfold iH;rw [f];have:=y8 (l:=C.aD.map iI) (i:=v.node.toNat) (a:=iI cY) (b:=iI cY+v.v.pieces.length) (by rw [dR,d];rfl);omega
 ·rw [c] at hm;cases g:C.aD[m]? with
  |none=>rw [g] at hm;cases hm
  |some dd=>
   rw [g] at hm;simp only [mW,fe] at hm;subst hm;have:=he m dd g;split
   ·exact this
   ·exact this
theorem Fd:∀ (vs:List aW) {C:bU} {k:Nat},(∀ (m:Nat) (l:cS),C.aD[m]?=some l->l.pair.bF=0)->(∀ v ∈ vs,v.node.toNat<C.aD.length)->iH (C.gO k vs)=iH C+cost vs
 | [],C,k,he,a=>by simp [bU.gO,cost]
 |v::vs,C,k,he,a=>by
  obtain ⟨b,c⟩:=NO (k:=k) he (a v e2);have d:(C.gu k v).aD.length=C.aD.length:=by simp [bU.gu]
  have:=Fd vs (k:=k+1) c (λu hu=>by rw [d];exact a u (fu _ hu));show iH ((C.gu k v).gO (k+1) vs)=_;rw [this,b];unfold cost;simp only [f9,jR];omega
theorem Bu:∀ (vs:List aW) (C:bU) (k:Nat),(C.gO k vs).aD.length=C.aD.length/\(C.gO k vs).inc=C.inc
 | [],C,k=>⟨rfl,rfl⟩
 |v::vs,C,k=>by obtain ⟨a,b⟩:=Bu vs (C.gu k v) (k+1);exact ⟨a.trans (by simp [bU.gu]),b⟩
theorem uZ (h:hr C):iH C=0:=by
 unfold iH;have:∀ ls:List cS,(∀ l ∈ ls,l.pair.ba=[])->(ls.map iI).sum=0:=λls=>by
  induction ls with
  |nil=>intro _;rfl
  |cons l ls d=>intro a;rw [f9,jR,d λx c=>a x (fu _ c)];unfold iI;rw [a l e2];simp
 exact this C.aD λl a=>by obtain ⟨k,b⟩:=eh.1 a;exact h k l b
def dU (F:aN) (i:Nat):Nat:=match F.aV[i]? with
 |some C=>iH C
 |none=>0
end
section
open e7
theorem ld {α:Type} {l:List α} {a:α} (h:l[i]?=some a):l.set i a=l:=by
 apply kj;intro k;by_cases e:i=k
 ·subst e;rw [jy (cb h),h]
 ·rw [hW e]
structure zj (E:Env) (bB:List aZ) (i j:Nat) (C:bU) (vs:List aW) (bw:Nat->Option aO) (l:cS) (x:aZ) (v:aW) (eX:List aW) (q:Nat) (ch:cP):Prop where
 lane:C.aD[j]?=some l
 node:bB[j]?=some x
 hM:l.pair.ba=v::eX
 pl:l.bR=q::ch
 at_:vs[q]?=some v
 nd:v.node.toNat=j
 bw:bw q=none
 pc:l.pair.a1=(i:Int)
 pi:l.pair.inc=1
 cf:fL l.pair
 nj:vK l.pair
def o6 (E:Env) (C:bU) (bB:List aZ):Prop:=∀ (k:Nat) (l:cS) (y:aZ),C.aD[k]?=some l->bB[k]?=some y->∀ i,i<(gS E).length->i<8 * l.pair.bF->y.get (56+i)=(gS E).getD i 0
theorem xJ (h:C.aD[j]?=some l) (p:dg) (d:Option aO):∃ l',(C.comes j l p d).aD[j]?=some l'/\l'.pair=p:=by
 have a:=cb h;cases d with
 |none=>exact ⟨{ l with pair:=p },by simp [bU.comes,a],rfl⟩
 |some d=>exact ⟨⟨p,l.bR.tail⟩,by simp [bU.comes,a],rfl⟩
theorem o6.step {bB:List aZ} (h:o6 E C bB) {fT:aZ} (o:C.aD[j]?=some l) (r:bB[j]?=some x) {p:dg} {d:Option aO} (q:∀ i,i<(gS E).length->i<8 * p.bF->fT.get (56+i)=(gS E).getD i 0):o6 E (C.comes j l p d) (bB.set j fT):=by
 intro k l' y a b i c he;by_cases e:k=j
 ·subst e;obtain ⟨l2,g,n⟩:=xJ o p d;rw [g] at a;cases a;rw [jy (cb r)] at b;cases b;rw [n] at he;exact q i c he
 ·rw [ps e] at a;rw [hW (λf=>e f.symm)] at b;exact h k l' y a b i c he
theorem kx {bw:Nat->Option aO} {a:aO} (h:fl bw q d cy=some a):(cy=q/\a=d)\/(cy≠q/\bw cy=some a):=by
 by_cases e:cy=q
 ·subst e;rw [sU] at h;cases h;exact .inl ⟨rfl,rfl⟩
 ·rw [rO e] at h;exact .inr ⟨e,h⟩
theorem yk {bw:Nat->Option aO} (h:fl bw q d cy=none):cy≠q/\bw cy=none:=by
 by_cases e:cy=q
 ·subst e;rw [sU] at h;cases h
 ·rw [rO e] at h;exact ⟨e,h⟩
section
variable {E:Env} {A:bt} {g:f_}
theorem e3.no (h:e3 E A g) (ar:d.code≠0):e3 E A ⟨g.aB,fl g.bw q d⟩:=by
 have key:∀ {cy b},fl g.bw q d cy=some b->b.code=0->g.bw cy=some b:=λ{cy b} c a=>by
  rcases kx c with ⟨_,e⟩ | ⟨_,e⟩
  ·rw [e] at a;exact absurd a ar
  ·exact e
 unfold e3 at h ⊢;simp only;split at h
 ·exact ⟨h.1,h.2.1,h.2.2.1,λm hm b c a=>h.2.2.2 m hm b (key c a) a⟩
 ·exact ⟨h.1,h.2.1,λcy p i=>⟨λc=>(h.2.2 cy p i).1 (yk c).2,λb c a=>(h.2.2 cy p i).2 b (key c a) a⟩⟩
 ·exact ⟨h.1,h.2.1,λm hm b c a=>h.2.2 m hm b (key c a) a⟩
 ·exact ⟨h.1,λcy v b c a f=>h.2 cy v b c (key a f) f⟩
 ·exact ⟨h.1,h.2.1,λcy v b c a f=>h.2.2 cy v b c (key a f) f⟩
 ·exact h
 ·trivial
theorem m5.add {bw:Nat->Option aO} (h:m5 E A vs bw) (al:vs[q]?=some v) (ar:l3 E A v):m5 E A vs (fl bw q d):=λcy bj b a c f=>by
 rcases kx c with ⟨e,_⟩ | ⟨_,e⟩
 ·subst e;rw [al] at a;cases a;exact ar
 ·exact h cy bj b a e f
theorem m9.add (h:m9 E A g) (hm:dp E A A') (al:(d' E g.aB)[q]?=some v) (ar:(d.code=0/\(d.words.length:Int)=v.v.iq)\/(d.code=5/\d.words=[]/\A'.dj v.node.toNat=true)):m9 E A' ⟨g.aB,fl g.bw q d⟩:=λcy i n=>by
 rcases kx n with ⟨j,k⟩ | ⟨_,e⟩
 ·subst j k;exact ⟨v,al,ar⟩
 ·obtain ⟨bj,l,f⟩:=h cy i e;refine ⟨bj,l,?_⟩;rcases f with f | ⟨a,b,c⟩
  ·exact .inl f
  ·exact .inr ⟨a,b,hm.dj _ c⟩
theorem m9.mono (h:m9 E A g) (hm:dp E A A'):m9 E A' g:=λcy e i=>by
 obtain ⟨bj,f,d⟩:=h cy e i;refine ⟨bj,f,?_⟩;rcases d with d | ⟨a,b,c⟩
 ·exact .inl d
 ·exact .inr ⟨a,b,hm.dj _ c⟩
structure tW (E:Env) (A:bt) (g:f_) (bB:List aZ) (j:Nat) (C:bU) (l:cS) (x:aZ) (A':bt) (bV:f_):Prop where
 aB:bV.aB=g.aB
 rep:jA E A' (bB.set j (l.pair.step x).2.1)
 law:e8 E A'
 ok:e3 E A' bV
 res:m9 E A' bV
 me:gC (C.comes j l (l.pair.step x).1 (l.pair.step x).2.2) (d' E g.aB) bV.bw
 jB:g.aB=0->o6 E (C.comes j l (l.pair.step x).1 (l.pair.step x).2.2) (bB.set j (l.pair.step x).2.1)
 gz:ob E A A'
 stay:A.dj j=true->A'=A/\bB.set j (l.pair.step x).2.1=bB
 GX:(A'.dW,A'.dj)=(A.dW,A.dj)
theorem tW.dW {E:Env} {A:bt} {g:f_} {bB:List aZ} {j:Nat} {C:bU} {l:cS} {x:aZ} {A':bt} {bV:f_} (h:tW E A g bB j C l x A' bV):A'.dW=A.dW:=congrArg Prod.fst h.GX
theorem tW.dj {E:Env} {A:bt} {g:f_} {bB:List aZ} {j:Nat} {C:bU} {l:cS} {x:aZ} {A':bt} {bV:f_} (h:tW E A g bB j C l x A' bV):A'.dj=A.dj:=congrArg Prod.snd h.GX
theorem wn (hm:dp E A A') (a:j<E.n) (ar:A.dj j=false):ob E A A':=
 ⟨hm,λh=>(by have:=h j a;rw [ar] at this;cases this),λh=>(by have:=h j a;rw [ar] at this;cases this)⟩
theorem Dc:ob E A A:=⟨dp.refl E A,λ_ h=>h,λ_ _ p _ h=>h⟩
theorem zl (ay:b8 E) {aB q:Nat} (h:(d' E aB)[q]?=some v):ic E.n E.L v/\v.v.Kind≠1:=by
 have b:=ay.e.n;have d:=ay.e.L;have c:=ay.lH
 match aB,h with
 | 0,h=>simp only [d',dR] at h;obtain ⟨m,hm,rfl⟩:=kP.1 h;have:=fJ.1 (b7 hm);exact ⟨nV b.2 this (by omega) (by omega) (by omega) (by omega) (by rw [c.1];omega),by show (2:Int)≠1;omega⟩
 | 1,h=>simp only [d',dR] at h;obtain ⟨p,a,rfl⟩:=kP.1 h;have f:=ay.pl (b7 a);exact ⟨wd b.2 (by omega) (by omega) (by omega) (by omega),by show (3:Int)≠1;omega⟩
 | 2,h=>simp only [d',dR] at h;obtain ⟨m,hm,rfl⟩:=kP.1 h;have:=fJ.1 (b7 hm);exact ⟨nV b.2 this (by omega) (by omega) (by simp) (by simp) (by simp;omega),by show (2:Int)≠1;omega⟩
 | 3,h=>
  obtain ⟨m,hm,_,⟨p,a,rfl⟩ | ⟨rfl,_⟩⟩:=wi h
  ·exact ⟨rD ay hm a,by show (2:Int)≠1;omega⟩
  ·exact ⟨rE ay hm,by show (2:Int)≠1;omega⟩
 |n+4,h=>
  obtain ⟨_,⟨_,rfl⟩ | ⟨_,p,a,rfl⟩⟩:=wj (show (f0 E (bI E))[q]?=some v from h)
  ·exact ⟨rE ay (by omega),by show (2:Int)≠1;omega⟩
  ·exact ⟨rD ay (by omega) a,by show (2:Int)≠1;omega⟩
theorem Pc (ay:b8 E) {bB:List aZ} (S:jA E A bB) (V:e8 E A) (D:e3 E A g) (W:m9 E A g) (WJ:g.aB<=4) (Z:gC C (d' E g.aB) g.bw) (ar:zj E bB 0 j C (d' E g.aB) g.bw l x v eX q ch) (Y:g.aB=0->o6 E C bB) :
  ∃ A' bV,tW E A g bB j C l x A' bV:=by
 obtain ⟨Wf,Wi⟩:=zl ay ar.at_;have WI:=ay.e.n;have o:=S.mem j x ar.node;have F:j<E.n:=by have:=cb ar.node;rw [S.len] at this;exact this
 have r:=D0 o.aP WI.2 Wf (p:=l.pair) (c:=0) ar.pc ar.pi (by omega);rw [if_neg (λe=>Wi e.2)] at r;have WK:=o.aP.len;have WH:=ay.mr;have fin:∀ {d:aO},(l.pair.step x).1=l.pair.done->(l.pair.step x).2.2=some d->gC (C.comes j l (l.pair.step x).1 (l.pair.step x).2.2) (d' E g.aB) (fl g.bw q d):=λ{d} z t=>by rw [z,t];exact Z.done ar.lane ar.hM (by show l.pair.ba.tail=eX;rw [ar.hM];rfl) ar.pl d
 have I:(l.pair.step x).1=l.pair.done->g.aB=0->o6 E (C.comes j l (l.pair.step x).1 (l.pair.step x).2.2) (bB.set j (l.pair.step x).2.1):=λz t=>(Y t).step ar.lane ar.node λi Wg he=>by rw [z] at he;exact absurd he (by show ¬ i<8 * 0;omega)
 cases u:A.dj j with
 |true=>
  rw [if_pos ⟨u,rfl⟩] at r;have b:=zh ar.hM (x:=x) (by rw [r];omega);rw [r] at b;have z:(l.pair.step x).1=l.pair.done:=by rw [b]
  have t:(l.pair.step x).2.1=x:=by rw [b]
  have O:(l.pair.step x).2.2=some ⟨5,[]⟩:=by rw [b]
  refine ⟨A,⟨g.aB,fl g.bw q ⟨5,[]⟩⟩,rfl,by rw [t,ld ar.node];exact S,V,D.no (by simp),W.add (dp.refl E A) ar.at_ (.inr ⟨rfl,rfl,by rw [ar.nd];exact u⟩),fin z O,I z,Dc,λ_=>⟨rfl,by rw [t,ld ar.node]⟩,rfl⟩
 |false=>
  rw [if_neg (λe=>by rw [u] at e;cases e.1)] at r;have X:¬ jc E A:=λh=>by have:=h j F;rw [u] at this;cases this
  have stay:A.dj j=true->∀ {P:Prop},P:=λe=>by rw [u] at e;cases e
  have R:∀ (cy:Nat) (bj:aW),cy<q->(d' E g.aB)[cy]?=some bj->bj.node.toNat=j->∃ d,g.bw cy=some d/\d.code=0:=λcy bj z t O=>by
   obtain ⟨d,V8⟩:=Z.before ar.lane ar.pl z t O;obtain ⟨v2,s,G⟩:=W cy d V8;rw [t] at s;cases s;rcases G with G | ⟨_,_,G⟩
   ·exact ⟨d,V8,G.1⟩
   ·rw [O,u] at G;cases G
  have one:∀ {a:Nat} {ws:bd},v=cx j (a:Int) ws->a % 8=0->ws.length<=8->a+ws.length<=x.words.length->l.pair.step x=(l.pair.done,x.write a ws,some ⟨0,[]⟩):=λ{a ws} e WD V5 WF=>by have M:=ar.hM;rw [e] at M r;exact ER ar.cf M r WD (ar.nj _ _ M rfl) WF V5
  obtain e | e | e | e | e:g.aB=0\/g.aB=1\/g.aB=2\/g.aB=3\/g.aB=4:=by omega
  ·
   unfold e3 at D;rw [e] at D;obtain ⟨H,b0,L,Wv⟩:=D;have f:=ar.at_;rw [e] at f
   simp only [d',dR] at f
   obtain ⟨m,hm,rfl⟩:=kP.1 f
   have V4:m=q:=by have Wa:=cb hm;rw [ly] at Wa;rw [kk Wa] at hm;exact (nX hm).symm
   subst V4;have V2:m=j:=by have:=ar.nd;simp [cx] at this;exact this
   subst V2;have Wy:=ay.lH;have V9:=ar.nj _ _ ar.hM rfl;obtain ⟨s1,s2,We,Wu,WM⟩:=zD (a:=56) ar.cf ar.hM r (by omega) V9 (by omega);have Wb:=Y e m l x ar.lane ar.node;have N:∀ {A':bt},(∀ p ∈ bI E,A'.bQ m (br p)=A.bQ m (br p))->A'.cG m=A.cG m->A'.dJ m=A.dJ m->A'.dj m=A.dj m->(m=0->A'.dW=A.dW)->(A'.eB m=true->∀ k,k<(gS E).length->(l.pair.step x).2.1.get (56+k)=(gS E).getD k 0)->Mem E A' m (l.pair.step x).2.1:=λz t O WA WB WC=>
    o.low ay We (by omega) (by omega) z WA (.inl (by omega)) (by rw [We.get _ (by omega),O];exact o.dJ) (by rw [We.get _ (by omega),t];exact o.cG) (λWw=>by rw [We.get _ (by omega),WB Ww];exact o.dW Ww) WC
   rcases WM with ⟨t1,t2,t3⟩ | ⟨t1,t2,t3⟩
   ·refine ⟨A,g,rfl,S.fl ar.node (N (λ_ _=>rfl) rfl rfl rfl (λ_=>rfl) λWy k V_=>Wu k V_ (.inr (o.eB Wy k V_))) (λ_ _ _ h=>h),V,by unfold e3;rw [e];exact ⟨H,b0,L,Wv⟩,W,?_,λ_=>(Y e).step ar.lane ar.node λi Wg he=>?_,Dc,λe=>stay e,rfl⟩
    ·rw [t2,t3];exact Z.more ar.lane rfl
    ·rw [t2] at he;refine Wu i Wg ?_;by_cases V5:i<8 * l.pair.bF
     ·exact .inr (Wb i Wg V5)
     ·exact .inl ⟨by omega,he⟩
   ·have V6:∀ k,k<(gS E).length->(l.pair.step x).2.1.get (56+k)=(gS E).getD k 0:=λk V_=>Wu k V_ (by
     by_cases V5:k<8 * l.pair.bF
     ·exact .inr (Wb k V_ V5)
     ·exact .inl ⟨by omega,by omega⟩)
    have B:dp E A (A.pM m):=Ni;refine ⟨A.pM m,⟨g.aB,fl g.bw m ⟨0,[]⟩⟩,rfl,S.fl ar.node (N (λ_ _=>rfl) rfl rfl rfl (λ_=>rfl) λ_=>V6) (λbW w y Wc=>Wc.same (λ_ _=>rfl) rfl rfl (by simp [bt.pM,w]) rfl (λ_=>rfl)),V.PR m,?_,W.add B ar.at_ (.inl ⟨rfl,rfl⟩),fin t2 t3,I t2,wn B F u,λe=>stay e,rfl⟩;unfold e3;simp only [e];refine ⟨H,b0,L,λbW w d z t=>?_⟩;rcases kx z with ⟨s,_⟩ | ⟨_,s⟩
    ·rw [s];simp [bt.pM]
    ·exact B.eB bW (Wv bW w d s t)
  ·
   unfold e3 at D;rw [e] at D;obtain ⟨H,b0,L⟩:=D;have f:=ar.at_;rw [e] at f
   simp only [d',dR] at f
   obtain ⟨p,J,rfl⟩:=kP.1 f
   have Wh:j=0:=by have:=ar.nd;simp [fW] at this;exact this.symm
   subst Wh;have U:=b7 J;have WG:=ay.pl U;have T:=(L q p J).1 ar.bw;obtain ⟨Wd,_⟩:=o.ar ay U (by omega);have Wd:=Wd T;have M:l.pair.ba=fW 0 ((br p * 8:Nat):Int) p.Head (eK p.Head 0)::eX:=by rw [ar.hM,show p.bo * 8=((br p * 8:Nat):Int) by omega]
   have b:=tM (x:=x) ar.cf M (by rw [show p.bo * 8=((br p * 8:Nat):Int) by omega] at r;exact r);rw [Wd] at b;have V7:x.gm ((br p * 8:Nat):Int) p.Head (eK p.Head 0)={ x with words:=x.words.set (br p * 8) (eK p.Head 0) }:=by unfold aZ.gm;rw [fU,if_pos Wd]
   rw [V7] at b;have B:dp E A (A.gR 0 (br p) 1):=vH λWx=>by omega
   refine ⟨A.gR 0 (br p) 1,⟨g.aB,fl g.bw q ⟨0,[p.Head]⟩⟩,rfl,by rw [b];exact S.fl ar.node (o.Q0 ay U T) (λbW w y Wc=>Wc.same (λp' _=>by simp [bt.gR,w]) rfl rfl rfl rfl (λ_=>rfl)),V.jn (by omega) (λe=>by omega) (λe=>by omega) (λe=>by omega) (λe=>by omega) (λe=>by omega),?_,W.add B ar.at_ (.inl ⟨rfl,rfl⟩),fin (by rw [b]) (by rw [b]),I (by rw [b]),wn B F u,λe=>stay e,rfl⟩;unfold e3;simp only [e];refine ⟨H,b0,λcy p' K=>⟨λz=>?_,λd z t=>?_⟩⟩
   ·obtain ⟨s,G⟩:=yk z;have Wk:br p'≠br p:=λWx=>by
     have:=ay.inj (b7 K) U Wx;subst this;have Wj:=ay.bM.nodup;have i1:((bI E).map (·.bo))[cy]?=some p'.bo:=by rw [dR,K];rfl
     have i2:((bI E).map (·.bo))[q]?=some p'.bo:=by rw [dR,J];rfl
     exact s ((yw (cb i1) Wj).1 (i1.trans i2.symm))
    simp only [bt.gR];rw [if_neg (λWz=>Wk Wz.2)];exact (L cy p' K).1 G
   ·rcases kx z with ⟨s,G⟩ | ⟨_,s⟩
    ·subst s G;rw [J] at K;cases K;exact ⟨rfl,.inl (by simp [bt.gR])⟩
    ·obtain ⟨b1,aA⟩:=(L cy p' K).2 d s t;refine ⟨b1,?_⟩;rcases aA with aA | aA
     ·left;simp only [bt.gR];split
      ·rfl
      ·exact aA
     ·exact absurd aA X
  ·
   unfold e3 at D;rw [e] at D;obtain ⟨H,b0,L⟩:=D;have f:=ar.at_;rw [e] at f
   simp only [d',dR] at f
   obtain ⟨m,hm,rfl⟩:=kP.1 f
   have V4:m=q:=by have Wa:=cb hm;rw [ly] at Wa;rw [kk Wa] at hm;exact (nX hm).symm
   subst V4;have V2:m=j:=by have:=ar.nd;simp [cx] at this;exact this
   subst V2;have b:=one (a:=48) rfl (by omega) (by simp) (by simp;omega);have T:∀ p ∈ bI E,A.bQ 0 (br p)≠0:=λp J=>by
    by_cases V':f' E A
    ·rcases b0 V' with s | s
     ·rw [s p J];omega
     ·exact absurd s X
    ·have:∃ m,m<E.n/\A.cG m=true:=by
      refine Classical.byContradiction λWE=>V' λm hm=>?_
      cases V3:A.cG m with
      |false=>rfl
      |true=>exact absurd ⟨m,hm,V3⟩ WE
     obtain ⟨bW,w,V3⟩:=this;exact (V.l2 bW w V3).2 p J
   have B:dp E A (A.jv m):=DD;refine ⟨A.jv m,⟨g.aB,fl g.bw m ⟨0,[]⟩⟩,rfl,by rw [b];exact S.fl ar.node (o.uE ay) (λbW w y Wc=>Wc.same (λp' _=>rfl) (by simp [bt.jv,w]) rfl rfl rfl (λ_=>rfl)),V.uE H T m,?_,W.add B ar.at_ (.inl ⟨rfl,rfl⟩),fin (by rw [b]) (by rw [b]),I (by rw [b]),wn B F u,λe=>stay e,rfl⟩;unfold e3;simp only [e];refine ⟨H,λWl=>?_,λbW w d z t=>?_⟩
   ·have:=Wl m F;simp [bt.jv] at this
   ·rcases kx z with ⟨s,_⟩ | ⟨_,s⟩
    ·rw [s];simp [bt.jv]
    ·exact B.cG bW (L bW w d s t)
  ·
   unfold e3 at D;rw [e] at D;obtain ⟨H,b0⟩:=D;have f:=ar.at_;rw [e] at f R;obtain ⟨a,ws,A',r1,Wn,Wo,Wp,Wq,Wr,Ws,Q,Wt,Wm,WL⟩:=En ay S V H (λp J=>J) f ar.nd ar.node (λcy bj z t O=>by obtain ⟨d,s,G⟩:=R cy bj z t O;exact b0 cy bj d t s G) λp J=>.inl J
   have b:=one r1 Wn Wo Wp;refine ⟨A',⟨g.aB,fl g.bw q ⟨0,[]⟩⟩,rfl,by rw [b];exact Wq,Wr,?_,W.add Q ar.at_ (.inl ⟨rfl,by rw [r1];rfl⟩),fin (by rw [b]) (by rw [b]),I (by rw [b]),wn Q F u,λe=>stay e,Wt⟩;unfold e3;simp only [e];exact ⟨Q.am H,(b0.mono Q).add f Ws⟩
  ·
   unfold e3 at D;rw [e] at D;obtain ⟨H,b0,L⟩:=D;have f:=ar.at_;rw [e] at f R;obtain ⟨a,ws,A',WN,r1,Wn,Wo,Wp,Wq,Wr,Ws,Q,Wt,Wm⟩:=Eo ay S V H b0 (λp J=>J) f ar.nd ar.node (λcy bj z t O=>by obtain ⟨d,s,G⟩:=R cy bj z t O;exact L cy bj d t s G);have b:=one r1 Wn Wo Wp;refine ⟨A',⟨g.aB,fl g.bw q ⟨0,[]⟩⟩,rfl,by rw [b];exact Wq,Wr,?_,W.add Q ar.at_ (.inl ⟨rfl,by rw [r1];rfl⟩),fin (by rw [b]) (by rw [b]),I (by rw [b]),wn Q F u,λe=>stay e,Wt⟩;unfold e3;simp only [e];exact ⟨Q.am H,Q.qC b0,(L.mono Q).add f Ws⟩
end
end
end Go.Proofs.YtmkljjbioomepaaGreat
