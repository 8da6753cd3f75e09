import Derived.Test.YtmkljjbioomepaaGreatd39
import Derived.Test.YtmkljjbioomepaaGreatProg
import Derived.Test.YtmkljjbioomepaaGreatd03
import Derived.Test.YtmkljjbioomepaaGreatd15
import Derived.Test.YtmkljjbioomepaaGreatd14
set_option linter.all false
set_option maxHeartbeats 4000000
set_option maxRecDepth 100000
namespace Go.Proofs.YtmkljjbioomepaaGreat
open Go.Proofs.Tryz Go.bs
variable {a i k:Nat} {cs:cT} {l:Int} {n:aN} {ts:List e3}
section
open e7
theorem C0:∀ {cl:List cR} {i:Nat} {x:fv},x ∈ lW i cl->∃ q p,cl[q]?=some p/\x=⟨((i+q:Nat):Int),p.aW,p.node⟩
 | [],i,x,h=>by simp [lW] at h
 |p::cl,i,x,h=>by
  unfold lW at h;rcases eU.1 h with e | h
  ·exact ⟨0,p,rfl,e⟩
  ·obtain ⟨q,p',a,b⟩:=C0 h;exact ⟨q+1,p',by simpa using a,by rw [b];congr 1;omega⟩
theorem Ms (p:cR) (x:aN):(p.step x).1.node=p.node:=by
 unfold cR.step;split
 ·rfl
 ·simp only;split
  ·rfl
  ·split<;>rfl
structure tN (F G:aE):Prop where
 nodes:F.nodes=G.nodes
 lines:F.lines=G.lines
 gE:∀ k,k≠0->F.aR[k]?=G.aR[k]?
 dead:∀ C,F.aR[0]?=some C->C.az=[]
 p1:∀ p ∈ F.bU,∃ C l,G.aR[0]?=some C/\C.az[p.node.toNat]?=some l/\l.pair=p/\p.a3≠[]
 nodup:(F.bU.map λp=>p.node.toNat).Nodup
def gm (F G:aE):Prop:=F=G\/tN F G
section
variable {F G:aE}
theorem gm.nodes (h:gm F G):F.nodes=G.nodes:=by
 rcases h with h | h
 ·rw [h]
 ·exact h.nodes
theorem gm.lines (h:gm F G):F.lines=G.lines:=by
 rcases h with h | h
 ·rw [h]
 ·exact h.lines
theorem gm.gE (h:gm F G) {k:Nat} (a:k≠0):F.aR[k]?=G.aR[k]?:=by
 rcases h with h | h
 ·rw [h]
 ·exact h.gE k a
theorem tN.dO (h:tN F G) {k:Nat} (g:k≠0) (C':bh):tN (F.dO (k:Int) C') (G.dO (k:Int) C'):=by
 have d:∀ H:aE,(H.dO (k:Int) C').aR=H.aR.set k C':=λH=>rfl
 refine ⟨h.nodes,h.lines,λi o=>?_,λC j=>?_,λp q=>?_,h.nodup⟩
 ·rw [d,d];by_cases e:k=i
  ·subst e;rw [im,im,if_pos rfl,if_pos rfl];have:=h.gE k g;by_cases f:k<F.aR.length
   ·have c:k<G.aR.length:=b3 (this.symm.trans (bE f));rw [if_pos f,if_pos c]
   ·have c:¬ k<G.aR.length:=λn=>f (b3 (this.trans (bE n)))
    rw [if_neg f,if_neg c]
  ·rw [gN e,gN e];exact h.gE i o
 ·rw [d,gN g] at j;exact h.dead C j
 ·obtain ⟨C,l,a,b⟩:=h.p1 p q;exact ⟨C,l,by rw [d,gN g];exact a,b⟩
theorem gm.dO (h:gm F G) {k:Nat} (a:k≠0) (C':bh):gm (F.dO (k:Int) C') (G.dO (k:Int) C'):=by
 rcases h with h | h
 ·exact .inl (by rw [h])
 ·exact .inr (h.dO a C')
theorem gm.take (h:gm F G) {k:Nat} (a:k≠0):(F.take (k:Int)).1=(G.take (k:Int)).1/\gm (F.take (k:Int)).2 (G.take (k:Int)).2:=by
 unfold aE.take;rw [h9,h9,h.gE a];split
 ·exact ⟨rfl,h⟩
 ·split
  ·exact ⟨rfl,h⟩
  ·split
   ·exact ⟨rfl,h⟩
   ·split
    ·exact ⟨rfl,h⟩
    ·exact ⟨rfl,h.dO a _⟩
theorem gm.post (h:gm F G) {k:Nat} (a:k≠0) (vs:List aQ):(F.post (k:Int) vs).1=(G.post (k:Int) vs).1/\gm (F.post (k:Int) vs).2 (G.post (k:Int) vs).2:=by
 unfold aE.post;rw [h9,h9,h.gE a,h.nodes,h.lines];split
 ·exact ⟨rfl,h⟩
 split
 ·exact ⟨rfl,h⟩
 split
 ·exact ⟨rfl,h⟩
 split
 ·exact ⟨rfl,h⟩
 split
 ·exact ⟨rfl,h⟩
 split
 ·exact ⟨rfl,h⟩
 exact ⟨rfl,h.dO a _⟩
theorem gm.tail (h:gm F G) (c:k≠0) {cv:Conv} {t:bJ cv} (b:t.aW=(k:Int)):(hG F t).2=(hG G t).2/\gm (hG F t).1 (hG G t).1:=by
 unfold hG;rw [b];obtain ⟨d,a⟩:=h.post c (cv.next t.bQ t.a7).1;rw [d];split
 ·exact ⟨rfl,h⟩
 split
 ·exact ⟨rfl,h⟩
 split
 ·exact ⟨rfl,a⟩
 ·exact ⟨rfl,a⟩
theorem gm.bN (h:gm F G) {k:Nat} (a:k≠0) {cv:Conv} {t:bJ cv} (b:t.aW=(k:Int)):(bN F t).2=(bN G t).2/\gm (bN F t).1 (bN G t).1:=by
 unfold Go.Proofs.YtmkljjbioomepaaGreat.bN;have c:F.alive (k:Int)=G.alive (k:Int):=by unfold aE.alive;rw [h9,h9,h.gE a]
 have d:F.waiting (k:Int)=G.waiting (k:Int):=by unfold aE.waiting;rw [h9,h9,h.gE a]
 rw [b,c,d];split
 ·exact ⟨rfl,h⟩
 ·obtain ⟨t1,t2⟩:=h.take a;rw [t1];refine t2.tail a ?_;cases (G.take (k:Int)).1<;>exact b
theorem HK (h:F.dU=[]) {C:bh} (a:F.aR[i]?=some C):hE C:=λk l b=>by
 cases al:l.pair.a3 with
 |nil=>rfl
 |cons v vs=>
  have hm:(⟨-1,((0+i:Nat):Int),((0+k:Nat):Int)⟩:fv) ∈ F.dU:=by unfold aE.dU;exact iq.2 (.inl (sw.2 ⟨i,C,a,ii.2 ⟨k,l,b,by rw [al];simp,rfl⟩⟩))
  rw [h] at hm;cases hm
end
section
variable {E:Env} {rs:cT} {F G:aE} {A:bu} {g:f7} {gr:Nat->c5}
theorem NV (h:gQ E rs G A g gr) (Xw:gm F G) {x:fv} (K:x ∈ F.dU):∃ i m cy M,fe i m G=some M/\F.step x=(true,cy)/\gm cy M/\(F=G->cy=M):=by
 have b:∀ {i m:Nat} {C:bh} {l:cA},G.aR[i]?=some C->C.az[m]?=some l->l.pair.a3≠[]->∃ y,G.nodes[m]?=some y:=λ{i m C l} f c al=>by
  have Xx:=b3 c;have Xv:=(h.fl.b8.ok.aW i C f).az;refine ⟨_,bE ?_⟩;split at Xv
  ·omega
  ·omega
 have r:∀ {l:cA},0<l.pair.a3.length->l.pair.a3≠[]/\l.pair.a3.length≠0:=λ{l} al=>⟨λe=>by rw [e] at al;simp at al,by omega⟩
 unfold aE.dU at K;by_cases o:F=G
 ·subst o;rw [h.gX] at K;rcases iq.1 K with hm | hm
  ·obtain ⟨i,C,f,hm⟩:=sw.1 hm;obtain ⟨m,l,c,al,rfl⟩:=ii.1 hm;rw [gM,gM];obtain ⟨kI,fA⟩:=r al;obtain ⟨y,t⟩:=b f c kI;have u:=jR.2 ⟨C,l,y,f,c,t,fA,rfl⟩;exact ⟨i,m,_,_,u,ya u,.inl rfl,λ_=>rfl⟩
  ·simp [lW] at hm
 ·have a:tN F G:=Xw.resolve_left o;rcases iq.1 K with hm | hm
  ·obtain ⟨i,C,f,hm⟩:=sw.1 hm;obtain ⟨m,l,c,al,rfl⟩:=ii.1 hm;rw [gM,gM];obtain ⟨kI,fA⟩:=r al;have W:i≠0:=λe=>by subst e;rw [a.dead C f] at c;simp at c
   have z:G.aR[i]?=some C:=by rw [<-a.gE i W];exact f
   obtain ⟨y,t⟩:=b z c kI;have u:=jR.2 ⟨C,l,y,z,c,t,fA,rfl⟩;have R:=jR.2 ⟨C,l,y,f,c,by rw [a.nodes];exact t,fA,rfl⟩;refine ⟨i,m,_,_,u,ya R,.inr ?_,λe=>absurd e o⟩;have:=a.dO W (C.comes m l (l.pair.step y).1 (l.pair.step y).2.2);exact ⟨by simp only [a.nodes],a.lines,this.gE,this.dead,this.p1,a.nodup⟩
  ·obtain ⟨q,p,H,rfl⟩:=C0 hm;rw [gM];have Y:=b3 H;obtain ⟨C,l,f,c,rfl,al⟩:=a.p1 p (b5 H);obtain ⟨y,t⟩:=b f c al;have D:=b3 f;have V:l.pair.a3.length≠0:=λe=>al (lI.1 e)
   have u:fe 0 l.pair.node.toNat G=some { G with nodes:=G.nodes.set l.pair.node.toNat (l.pair.step y).2.1,aR:=G.aR.set 0 (C.comes l.pair.node.toNat l (l.pair.step y).1 (l.pair.step y).2.2) }:=jR.2 ⟨C,l,y,f,c,t,V,rfl⟩;have S:F.step ⟨(q:Int),l.pair.aW,l.pair.node⟩=(true,{ F with nodes:=F.nodes.set l.pair.node.toNat (l.pair.step y).2.1,bU:=if (l.pair.step y).1.a3.length=0 then F.bU.eraseIdx q else F.bU.set q (l.pair.step y).1 }):=by unfold aE.step;rw [if_pos (by show (0:Int)<=(q:Int);omega)];unfold aE.iX;simp only [fD,H,a.nodes,t]
   have n:=Ms l.pair y;refine ⟨0,_,_,_,u,S,.inr ⟨by simp only [a.nodes],a.lines,λk X=>?_,a.dead,λp' s=>?_,?_⟩,λe=>absurd e o⟩
   ·show F.aR[k]?=(G.aR.set 0 _)[k]?;rw [gN (λe=>X e.symm)];exact a.gE k X
   ·have d:∀ w,w ∈ F.bU.eraseIdx q->∃ L l2,(G.aR.set 0 (C.comes l.pair.node.toNat l (l.pair.step y).1 (l.pair.step y).2.2))[0]?=some L/\L.az[w.node.toNat]?=some l2/\l2.pair=w/\w.a3≠[]:=by
     intro w I;obtain ⟨L,l2,B,P,rfl,T⟩:=a.p1 w (yQ I);rw [f] at B;cases B;have r:l2.pair.node.toNat≠l.pair.node.toNat:=by
      obtain ⟨i2,j,O⟩:=List.mem_eraseIdx_iff_getElem?.1 I;intro e;have Q:=a.nodup;have J:(F.bU.map λp=>p.node.toNat)[i2]?=some l.pair.node.toNat:=by rw [dS,O];simp [e]
      have N:(F.bU.map λp=>p.node.toNat)[q]?=some l.pair.node.toNat:=by rw [dS,H];rfl
      exact j ((yN (b3 J) Q).1 (J.trans N.symm))
     exact ⟨_,l2,g5 D,by rw [kC r];exact P,rfl,T⟩
    simp only at s;split at s
    ·exact d p' s
    ·rename_i U;obtain ⟨i2,j⟩:=ei.1 s;by_cases e:q=i2
     ·subst e;rw [g5 Y] at j;cases j;obtain ⟨l',J,N⟩:=x2 c (l.pair.step y).1 (l.pair.step y).2.2;exact ⟨_,l',g5 D,by rw [n];exact J,N,λe=>U (by rw [e];rfl)⟩
     ·rw [gN e] at j;exact d p' (List.mem_eraseIdx_iff_getElem?.2 ⟨i2,λZ=>e Z.symm,j⟩)
   ·simp only;split
    ·exact a.nodup.sublist ((List.eraseIdx_sublist _ _).map _)
    ·rw [iH,n];have:(F.bU.map λp=>p.node.toNat).set q l.pair.node.toNat=F.bU.map λp=>p.node.toNat:=by
      apply jK;intro i;by_cases e:q=i
      ·subst e;rw [g5 (by simpa using Y),dS,H];rfl
      ·rw [gN e]
     rw [this];exact a.nodup
theorem Mt (h:gQ E rs G A g gr) (j:gm F G) (sch:a8) (n:Nat):(fC F sch n=(false,F)/\F.dU=[])\/∃ i m cy c,fe i m G=some c/\fC F sch n=(true,cy)/\gm cy c/\(F=G->cy=c):=by
 unfold Go.Proofs.YtmkljjbioomepaaGreat.fC;cases f:F.dU[t7 F sch n]? with
 |some x=>exact .inr (NV h j (b5 f))
 |none=>
  refine .inl ⟨rfl,?_⟩;rcases vp F.dU.length with e | a
  ·exact lI.1 e
  ·exfalso;have d:t7 F sch n<F.dU.length:=by
    unfold t7;split
    ·have k:=vm (sch.getD n 0) (b:=(F.dU.length:Int)) (by omega);have l:=vG (sch.getD n 0) (b:=(F.dU.length:Int)) (by omega);omega
    ·exact a
   rw [bE d] at f;cases f
theorem dp.trans {E:Env} {A B C:bu} (h:dp E A B) (a:dp E B C):dp E A C:=⟨λm x=>a.cM m (h.cM m x),λm x=>a.dJ m (h.dJ m x),λm x=>a.ez m (h.ez m x),λm x=>a.dj m (h.dj m x),λm l x=>a.bV m l (h.bV m l x)⟩
def g4 (rs:cT) (G:aE) (g:f7) (gr:Nat->c5):Nat:=dW G 0+oO g.aC+(rs.map λc=>dW G c+g1 (gr c).aC).sum
structure jL (E:Env) (rs cs:cT) (F:aE) (ts:List e3) (G:aE) (A:bu) (g:f7) (gr:Nat->c5):Prop where
 iD:gQ E rs G A g gr
 mP:gm F G
 len:ts.length=cs.length
 fY:∀ (k c:Nat) (t:e3),cs[k]?=some c->ts[k]?=some t->(c=0/\F=G/\om E A g t)\/(c ∈ rs/\mm E c (gr c) t)
def qu (rs:cT) (G:aE) (g:f7) (gr:Nat->c5) (c:Nat):Prop:=(c=0->g.aC=6\/g.aC=7\/∃ C,G.aR[0]?=some C/\¬ hE C)/\(c ∈ rs->(gr c).aC=10\/(gr c).aC=11\/∃ C,G.aR[c]?=some C/\¬ hE C)
theorem yY (ay:cg E) (x:∀ c ∈ rs,1<=c/\c<6) {cs:cT} (M:cs.Nodup):∀ (l:List e3) {pre:List e3} {F G:aE} {g:f7} {gr:Nat->c5},jL E rs cs F (pre++l) G A g gr->
  ∃ H bW o,jL E rs cs (turns F l).1 (pre++(turns F l).2) H A bW o/\g4 rs H bW o<=g4 rs G g gr/\(∀ k c:Nat,k<pre.length->cs[k]?=some c->qu rs G g gr c->qu rs H bW o c)/\∀ k c:Nat,pre.length<=k->cs[k]?=some c->qu rs H bW o c
 | [],pre,F,G,g,gr,h=>⟨G,g,gr,h,cY _,λ_ _ _ _ p=>p,λk c X Y=>by have:=h.len;have:=b3 Y;simp at *;omega⟩
 |t::l,pre,F,G,g,gr,h=>by
  have D:0 ∉ rs:=λe=>by have:=x 0 e;omega
  have R:=h.len;rw [dy,hh] at R;obtain ⟨c,u⟩:∃ c,cs[pre.length]?=some c:=⟨_,bE (by omega)⟩;have Xv:(pre++t::l)[pre.length]?=some t:=by rw [h4 (cY _),m3];rfl
  have w:∀ {k:Nat},cs[k]?=some c->k=pre.length:=λ{k} d=>(yN (b3 d) M).1 (d.trans u.symm)
  have hlen:((pre++[(bN F t).2])++l).length=cs.length:=by simp;omega
  have K:∀ {k c':Nat} {y:e3},cs[k]?=some c'->((pre++[(bN F t).2])++l)[k]?=some y->(k=pre.length/\c'=c/\y=(bN F t).2)\/(c'≠c/\(pre++t::l)[k]?=some y):=λ{k c' y} d j=>by
   by_cases e:k=pre.length
   ·subst e;rw [lF,h4 (cY _),m3] at j;rw [u] at d;cases d;exact .inl ⟨rfl,rfl,(me j).symm⟩
   ·refine .inr ⟨λQ=>e (w (by rw [<-Q];exact d)),?_⟩;rw [<-j,lF];by_cases N:k<pre.length
    ·rw [h3 N,h3 N]
    ·obtain ⟨z,au⟩:∃ z,k - pre.length=z+1:=⟨k - pre.length - 1,by omega⟩;rw [h4 (l₁:=pre) (l₂:=[(bN F t).2]++l) (show pre.length<=k by omega),h4 (l₁:=pre) (l₂:=t::l) (show pre.length<=k by omega),au];rfl
  have key:∃ J C q,jL E rs cs (bN F t).1 ((pre++[(bN F t).2])++l) J A C q/\g4 rs J C q<=g4 rs G g gr/\(∀ k c':Nat,k<pre.length->cs[k]?=some c'->qu rs G g gr c'->qu rs J C q c')/\qu rs J C q c:=by
   rcases h.fY _ c t u Xv with ⟨rfl,rfl,O⟩ | ⟨r,O⟩
   ·obtain ⟨C,P,b2,T,B,i,_⟩:=Qv ay D h.iD O;refine ⟨_,C,gr,⟨P,.inl rfl,hlen,λk c' y d j=>?_⟩,?_,λk c' d a I=>?_,λ_=>?_,λe=>absurd e D⟩
    ·rcases K d j with ⟨_,rfl,rfl⟩ | ⟨f,g⟩
     ·exact .inl ⟨rfl,rfl,b2⟩
     ·rcases h.fY k c' y d g with ⟨e,_⟩ | b
      ·exact absurd e f
      ·exact .inr b
    ·have:(rs.map λc=>dW (bN F t).1 c+g1 (gr c).aC).sum<=(rs.map λc=>dW F c+g1 (gr c).aC).sum:=tJ λk d=>by
      have:dW (bN F t).1 k=dW F k:=by unfold dW;rw [B k (λe=>D (by rw [<-e];exact d))]
      omega
     unfold g4;omega
    ·have f:c'≠0:=λe=>by rw [e] at a;have:=w a;omega
     refine ⟨λe=>absurd e f,λr=>?_⟩
     rw [B c' f];exact I.2 r
    ·rcases i with i | i | ⟨_,i⟩
     ·exact .inl i
     ·exact .inr (.inl i)
     ·exact .inr (.inr i)
   ·have Z:=x c r;have n:c≠0:=by omega
    obtain ⟨s,P,b2,T,B,i,_⟩:=Qx ay x h.iD r O;obtain ⟨b1,aB⟩:=h.mP.bN n O.cE;refine ⟨(bN G t).1,g,hZ gr c s,⟨P,aB,hlen,λk c' y d j=>?_⟩,?_,λk c' d a I=>?_,λe=>absurd e n,λ_=>?_⟩
    ·rcases K d j with ⟨_,rfl,rfl⟩ | ⟨f,W⟩
     ·exact .inr ⟨r,by rw [eS,b1];exact b2⟩
     ·rcases h.fY k c' y d W with ⟨e,Q,b⟩ | ⟨e,b⟩
      ·subst Q;exact .inl ⟨e,rfl,b⟩
      ·exact .inr ⟨e,by rw [kc f];exact b⟩
    ·have X:dW (bN G t).1 0=dW G 0:=by unfold dW;rw [B 0 (λe=>n e.symm)]
     have:(rs.map λk=>dW (bN G t).1 k+g1 (hZ gr c s k).aC).sum<=(rs.map λk=>dW G k+g1 (gr k).aC).sum:=tJ λk d=>by
      by_cases e:k=c
      ·subst e;rw [eS];exact T
      ·have:dW (bN G t).1 k=dW G k:=by unfold dW;rw [B k e]
       rw [kc e];omega
     unfold g4;omega
    ·have f:c'≠c:=λe=>by rw [e] at a;have:=w a;omega
     refine ⟨λe=>?_,λL=>?_⟩
     ·rw [B 0 (λe=>n e.symm)];exact I.1 e
     ·rw [B c' f,kc f];exact I.2 L
    ·rw [eS];rcases i with i | i | ⟨_,i⟩
     ·exact .inl i
     ·exact .inr (.inl i)
     ·exact .inr (.inr i)
  obtain ⟨J,C,q,Xw,Xx,Xy,Xz⟩:=key;obtain ⟨H,bW,o,U,XA,V,XB⟩:=yY ay x M l Xw;have S:turns F (t::l)=((turns (bN F t).1 l).1,(bN F t).2::(turns (bN F t).1 l).2):=rfl;rw [S];refine ⟨H,bW,o,by rw [lF] at U;exact U,lE XA Xx,λk c' d a I=>V k c' (by simp;omega) a (Xy k c' d a I),λk c' d a=>?_⟩;by_cases e:k=pre.length
  ·subst e;rw [u] at a;cases a;exact V pre.length c (by simp) u Xz
  ·exact XB k c' (by simp;omega) a
theorem NW (ay:cg E) (l:∀ c ∈ rs,1<=c/\c<6) (h:jL E rs cs F ts G A g gr) {m:Nat} {cy f:aE} (z:fe i m G=some f) (y:gm cy f) (w:F=G->cy=f):∃ A' bW a,jL E rs cs cy ts f A' bW a/\g4 rs f bW a<g4 rs G g gr/\dp E A A':=by
 obtain ⟨A',bW,a,D,r,s,H,I,J,C,C',K,L,M,p⟩:=N_ ay l h.iD z;have o:0 ∉ rs:=λe=>by have:=l 0 e;omega
 refine ⟨A',bW,a,⟨D,y,h.len,λk c t n B=>?_⟩,?_,I⟩
 ·rcases h.fY k c t n B with ⟨e,u,b⟩ | ⟨e,b⟩
  ·exact .inl ⟨e,w u,b.aA r H⟩
  ·exact .inr ⟨e,b.aA (s c)⟩
 ·have j:∀ c,(a c).aC=(gr c).aC:=λc=>zg (s c)
  have x:dW f i<dW G i:=by unfold dW;rw [K,L];exact M
  have d:∀ k,k≠i->dW f k=dW G k:=λk n=>by unfold dW;rw [p k n]
  unfold g4;rw [r];rcases J with e | e
  ·subst e;have:(rs.map λc=>dW f c+g1 (a c).aC).sum<=(rs.map λc=>dW G c+g1 (gr c).aC).sum:=tJ λk n=>by rw [j,d k (λe=>o (by rw [<-e];exact n))];exact cY _
   omega
  ·have O:=l i e;have N:=d 0 (by omega);have:(rs.map λc=>dW f c+g1 (a c).aC).sum<(rs.map λc=>dW G c+g1 (gr c).aC).sum:=EW (i:=i) (λk n=>by
    rw [j];by_cases q:k=i
    ·subst q;omega
    ·rw [d k q];exact cY _) e (by rw [j];omega)
   omega
def rP (ts:List e3):Prop:=∀ t ∈ ts,t.e4=true
theorem NX (f:∀ c ∈ rs,1<=c/\c<6) (h:jL E rs cs F ts G A g gr) (q:∀ c ∈ cs,qu rs G g gr c) (n:F.dU=[]):rP ts:=λt r=>by
 obtain ⟨k,l⟩:=ei.1 r;obtain ⟨c,j⟩:∃ c,cs[k]?=some c:=⟨_,bE (by rw [<-h.len];exact b3 l)⟩;have i:=q c (b5 j);rcases h.fY k c t j l with ⟨e,o,a⟩ | ⟨e,a⟩
 ·rcases i.1 e with p | p | ⟨C,b,d⟩
  ·exact (a.fin p).1
  ·exact (a.ref p).1
  ·subst o;exact absurd (HK n b) d
 ·rcases i.2 e with p | p | ⟨C,b,d⟩
  ·exact (a.fin p).1
  ·exact (a.busy p).1
  ·have:=f c e;rw [<-h.mP.gE (by omega)] at b;exact absurd (HK n b) d
theorem Bh:∀ {ts:List e3} {F:aE},rP ts->turns F ts=(F,ts)
 | [],F,_=>rfl
 |t::ts,F,h=>by
  have a:bN F t=(F,t):=by unfold bN;rw [if_pos (.inl (h t eO))]
  show ((turns (bN F t).1 ts).1,(bN F t).2::(turns (bN F t).1 ts).2)=_;rw [a];show ((turns F ts).1,t::(turns F ts).2)=_;rw [Bh λx b=>h x (fw _ b)]
theorem Fu (ay:cg E) (a:∀ c ∈ rs,1<=c/\c<6) {cs:cT} (j:cs.Nodup) (ds sch:a8):∀ (f n:Nat) {F G:aE} {ts:List e3} {A:bu} {g:f7} {gr:Nat->c5},jL E rs cs F ts G A g gr->
  ∃ l A' bW d,jL E rs cs (f_ ds sch [] f n F ts).1 (f_ ds sch [] f n F ts).2 l A' bW d/\dp E A A'/\g4 rs l bW d<=g4 rs G g gr/\(g4 rs G g gr<f->rP (f_ ds sch [] f n F ts).2/\(f_ ds sch [] f n F ts).1.dU=[])
 | 0,n,F,G,ts,A,g,gr,h=>⟨G,A,g,gr,h,dp.refl E A,cY _,λhw=>by omega⟩
 |f+1,n,F,G,ts,A,g,gr,h=>by
  obtain ⟨s,u,o,b,I,_,J⟩:=yY ay a j ts (pre:=[]) h;rw [m2] at b;unfold f_;have B:jU F ds n []=F:=rfl;rw [B];rcases Mt b.iD b.mP sch n with ⟨e,q⟩ | ⟨i,m,cy,l,H,e,D,y⟩
  ·rw [e,if_neg (by simp)];refine ⟨s,A,u,o,b,dp.refl E A,I,λ_=>⟨NX a b (λc z=>?_) q,q⟩⟩;obtain ⟨k,C⟩:=ei.1 z;exact J k c (vt _) C
  ·rw [e,if_pos rfl];obtain ⟨P,Q,x,K,R,L⟩:=NW ay a b H D y;obtain ⟨t,r,w,p,M,N,S,O⟩:=Fu ay a j ds sch f (n+1) K;exact ⟨t,r,w,p,M,L.trans N,by omega,λhw=>O (by omega)⟩
theorem C1 (ay:cg E) (d:∀ c ∈ rs,1<=c/\c<6) (b:cs.Nodup) (h:jL E rs cs F ts G A g gr) (sch:a8) (most:Nat) :
  ∃ f A' bW a,jL E rs cs (dK F ts sch [] most).1 (dK F ts sch [] most).2 f A' bW a/\dp E A A'/\g4 rs f bW a<=g4 rs G g gr/\(g4 rs G g gr<most->rP (dK F ts sch [] most).2/\(dK F ts sch [] most).1.dU=[]):=by
 unfold dK;obtain ⟨r,j,s,n,o,p,t,q⟩:=Fu ay d b (ts.map bJ.aW) sch most 0 h;obtain ⟨k,l,e,i,u,_,_⟩:=yY ay d b _ (pre:=[]) o;rw [m2] at i;refine ⟨k,j,l,e,i,p,by omega,λhw=>?_⟩
 have:=q hw;rw [Bh this.1];exact this
theorem Mu (ay:cg E) (j:∀ c ∈ rs,1<=c/\c<6) (i:cs.Nodup) (h:jL E rs cs F ts G A g gr) (sch:a8) (most:Nat) :
  ∃ f A' bW e,jL E rs cs (dK F ts sch [] most).1 (dK F ts sch [] most).2 f A' bW e/\dp E A A'/\g4 rs f bW e<=g4 rs G g gr/\(g4 rs G g gr<most->rP (dK F ts sch [] most).2):=by
 obtain ⟨f,A',bW,e,a,b,c,d⟩:=C1 ay j i h sch most;exact ⟨f,A',bW,e,a,b,c,λhw=>(d hw).1⟩
end
end
section
open e7

end
section
open e7
theorem L4 {x:Nat} (b:x<18446744073709551616):fG .u64 (x:Int) 255=((x % 256:Nat):Int):=by have a:fG .u64 (x:Int) ((2 ^ 8 - 1:Nat):Int)=(x:Int) % (2 ^ 8:Nat):=Bm (by omega) (by omega) 8 (by omega);have a:fG .u64 (x:Int) 255=(x:Int) % 256:=a;rw [a];omega
theorem C2 (b:256 * a<18446744073709551616) (c:k<255):eK ((256 * a:Nat):Int) k=((256 * a+(k+1):Nat):Int):=by
 unfold eK;have e:((k:Int)+1)=((k+1:Nat):Int):=by omega
 rw [e,vg _ _ b (by omega)];congr 1;exact (Nat.two_pow_add_eq_or_of_lt (i:=8) (by omega) a).symm
theorem NY:df .u64 ((256 * a:Nat):Int) 8=(a:Int):=by show Int.fdiv ((256 * a:Nat):Int) 256=_;rw [vo _ (by decide)];omega
theorem KQ (b:256 * (a+1)<18446744073709551616):lB ((256 * a:Nat):Int)=((256 * (a+1):Nat):Int):=by unfold lB;rw [NY];show IntKind.u64.wrap (((a:Int)+1) * 256)=_;rw [j3 (by omega) (by omega)];omega
theorem JX {p:aK} (h:kh p=true):∃ a:Nat,p.Head=((256 * a:Nat):Int)/\1<=a/\a<=281474976710654:=by
 simp only [kh,kO,l8,ep,decide_eq_true_eq,beq_iff_eq] at h;obtain ⟨⟨b,c⟩,d⟩:=h;have e:df .u64 p.Head 8=p.Head / 256:=by show Int.fdiv p.Head 256=_;rw [vo _ (by decide)]
 rw [e] at b c;obtain ⟨x,f⟩:∃ x:Nat,p.Head=x:=⟨p.Head.toNat,by omega⟩;rw [f] at b c d ⊢;rw [L4 (by omega)] at d;exact ⟨x / 256,by omega,by omega,by omega⟩
theorem L5 {l:List aK} (h:∀ i,i<l.length->j9 l i=true):∀ a b (g:a<l.length) (f:b<l.length),a<b->l[a].bm<l[b].bm:=by
 intro a b g f j;induction b with
 |zero=>omega
 |succ b k=>
  have c:=h (b+1) f;simp only [j9,vB,decide_eq_true_eq,dq] at c;have d:b<l.length:=by omega
  rw [Nat.add_sub_cancel,bE d,bE f] at c;have c:l[b].bm<l[b+1].bm:=c.resolve_left (by omega);by_cases e:a=b
  ·subst e;exact c
  ·have:=k d (by omega);omega
theorem C3 {L:Int} (h:iN l L=true):∃ k:Nat,l=(k:Int)/\96<=k/\(k:Int)<L:=by simp only [iN,decide_eq_true_eq] at h;exact ⟨l.toNat,by omega,by omega,by omega⟩
theorem ey.TK {E:Env} {j:c0} (al:j.valid=0) (K:j.aW=(i:Int)) (J:i<6) (hw:j.v=ro E.n) (R:j.lines=E.L) (F:j.writes≠[]) (M:∀ p ∈ j.writes,p.Head=E.base p.bm.toNat 0) (P:∀ s ∈ j.reads,s.Head=E.base s.bm.toNat 0):ey E i j:=by
 have D:=al;have hlen:0<j.writes.length:=vC.2 F;unfold c0.valid at al;split at al
 ·omega
 split at al
 ·next h=>exact absurd al h
 split at al
 ·omega
 next N=>
 split at al
 ·next h=>exact absurd al h.2
 next d=>
 split at al
 ·omega
 next I=>
 split at al
 ·omega
 next l=>
 split at al
 ·omega
 next o=>
 have d:fH j.seq j.writes j.lines=0:=Decidable.not_not.1 λe=>d ⟨hlen,e⟩
 unfold fH at d;split at d
 ·omega
 split at d
 ·omega
 next Q=>
 split at d
 ·omega
 next r=>
 split at d
 ·omega
 next f=>
 have r:∀ p ∈ j.writes,iN p.bm j.lines=true:=fE.1 (by simpa using r);have l:∀ p ∈ j.reads,iN p.bm j.lines=true:=fE.1 (by simpa using l);have f:∀ i,i<j.writes.length->j9 j.writes i=true/\kh (j.writes.getD i hR)=true:=λi w=>by have:=fE.1 (show (List.range j.writes.length).all (λi=>j9 j.writes i && kh (j.writes.getD i hR))=true by simpa using f) i (fs.2 w);rwa [ep] at this
 have o:∀ i,i<j.reads.length->mR j.reads j.writes i=true:=λi w=>fE.1 (show (List.range j.reads.length).all (mR j.reads j.writes)=true by simpa using o) i (fs.2 w)
 have g:=L5 λi w=>(f i w).1
 have u:∀ p ∈ j.writes,∃ a:Nat,p.Head=((256 * a:Nat):Int)/\1<=a/\a<=281474976710654:=λp c=>by obtain ⟨k,t,rfl⟩:=yO c;have:=(f k t).2;rw [dq,bE t] at this;exact JX this
 refine ⟨K,J,D,hw,F,by omega,by omega,λp c=>?_,λp c=>?_,λp c q O e=>?_,?_,M,λp c k t=>?_,λp c=>?_,P,λs C p c e=>?_⟩
 ·obtain ⟨k,z,A,G⟩:=C3 (r p c);exact ⟨k,z,A,by omega⟩
 ·obtain ⟨k,z,A,G⟩:=C3 (l p c);exact ⟨k,z,A,by omega⟩
 ·obtain ⟨a,x,rfl⟩:=yO c;obtain ⟨b,y,rfl⟩:=yO O;rcases Nat.lt_trichotomy a b with h | h | h
  ·have:=g a b x y h;omega
  ·subst h;rfl
  ·have:=g b a y x h;omega
 ·rw [List.nodup_iff_pairwise_ne,List.pairwise_map,BA];intro a b x y B e;have:=g a b x y B;omega
 ·obtain ⟨a,e,d,H⟩:=u p c;rw [e,C2 (by omega) (by omega),C2 (by omega) (by omega)];exact ⟨by omega,λe=>by omega⟩
 ·obtain ⟨a,e,d,H⟩:=u p c;rw [e,KQ (by omega)];omega
 ·obtain ⟨k,t,rfl⟩:=yO C;have:=o k t;simp only [mR,ep,dq,bE t,qc,has,yK,decide_eq_true_eq] at this;exact this.2 p c e.symm
end
section
open e7
def tU (l k:Nat):Int:=if k=0 then 256 else 0
def vi (n L:Nat):Bool:=
 let w:=fmt L n
 w.length == L * 8 && (w.getD 0 0 == 1 && (w.getD 1 0 == 1 && ((List.range 6).all (λc=>w.getD (24+c) 0 == 1 && w.getD (32+c) 0 == 0) && (List.range (L - 96)).all λq=>(List.range 8).all λk=>w.getD ((q+96) * 8+k) 0 == tU 0 k)))
end
section
open IntKind
variable (w:ak) (R:cz) {a b c:Nat} {s:an} {i k l:Int} {A B:aX} {j:ar}
def xr (c:aX) (s1:an) (a b:Nat) (s2 d:Int) (j:ar):ar:=.pointer (some c)::ae s1 a b::ab s2::ag j 0 4 (ab d::ag j 4 137 [])
def Gx  (j:ar):ar:=ag j 0 145 []
def xA (c:aX) (s1:an) (a b:Nat) (s2 d s8:Int) (j:ar):ar:=.pointer (some c)::ae s1 a b::ab s2::ag j 0 4 (ab d::ab s8::ag j 4 136 [])
def Gy (a:aX) (s1:an) (b c:Nat) (s2 d:Int) (j:ar):ar:=.pointer (some a)::ae s1 b c::ab s2::ag j 0 4 (ab d::ag j 4 137 [])
def xB (d:aX) (s1:an) (a b:Nat) (s2 e c:Int) (j:ar):ar:=.pointer (some d)::ae s1 a b::ab s2::ag j 0 4 (ab e::ag j 4 5 (ab c::ag j 9 131 []))
def Gz (a:aX) (s1:an) (b c:Nat) (s2 d:Int) (j:ar):ar:=.pointer (some a)::ae s1 b c::ab s2::ag j 0 4 (ab d::ag j 4 137 [])
theorem Wu:bf prog f27 [ba a,ae s b c,ab i] R w=(cG prog (c7 f27 [1,0,1,0,0]) (xr (af a 0) s b c i 0 (bD 3 (ad false::bD 137 []))) (aP 0 (aU f27 [1,1] R)) w):=by kernel_rfl
theorem TG (c:ar->aF):W prog (sb f27 [1,0,1,0,0]) (xr A s a b i k j) (aZ c (aP 0 (aU f27 [1,1] R))) w=(cond (k<(a:Nat)) (cG prog (c7 f27 [1,0,1,0,0,1,0,0,0,1,0,0]) (xA A s a b i k 96 (ag j 0 4 (ag j 5 13 (ab k::ae s a b::eo a::ad (k<(a:Nat))::ag j 22 119 [])))) (aP 2 (aZ (λd w=>W prog (sb f27 [1,0,1,0,0,1,0,0,1]) d (aP 1 (aZ (λd w=>W prog (sb f27 [1,0,1,0,0,1,1]) d (aZ c (aP 0 (aU f27 [1,1] R))) w) (aZ c (aP 0 (aU f27 [1,1] R))))) w) (aP 1 (aZ (λd w=>W prog (sb f27 [1,0,1,0,0,1,1]) d (aZ c (aP 0 (aU f27 [1,1] R))) w) (aZ c (aP 0 (aU f27 [1,1] R))))))) w) (W prog (sb f27 [1,1]) (Gx  (jp A::ae s a b::ab i::ag j 0 4 (ab k::ag j 4 14 (ab k::ae s a b::eo a::ad (k<(a:Nat))::ag j 22 119 [])))) (b7 f27 R) w)):=by kernel_rfl
theorem UP:W prog (sb f27 [1,1]) (Gx  j) (b7 f27 R) w=(R (ad true) w):=by kernel_rfl
theorem TH (q:ar->aF) (B:ar->aF):W prog (sb f27 [1,0,1,0,0,1,0,0,0,1,0,0]) (xA A s a b i k l j) (aZ B (aP 2 (aZ (λp w=>W prog (sb f27 [1,0,1,0,0,1,0,0,1]) p (aP 1 (aZ (λp w=>W prog (sb f27 [1,0,1,0,0,1,1]) p (aZ q (aP 0 (aU f27 [1,1] R))) w) (aZ q (aP 0 (aU f27 [1,1] R))))) w) (aP 1 (aZ (λp w=>W prog (sb f27 [1,0,1,0,0,1,1]) p (aZ q (aP 0 (aU f27 [1,1] R))) w) (aZ q (aP 0 (aU f27 [1,1] R)))))))) w=(cond (l<i) (bA s a 0 3 λx=>bX w x λc=>Calls prog 30 #[.pointer (some A),ab c,ab l] w λe D=>aK.ex λn=>∃ (d:Bool),e=.returned (.tuple #[n.val,ad d])/\aS D #[ab 0,ah 0,ah 0,ah 0,ah 0,ah 0,ah 0,ah 0,ah 0] 73 λt C=>a_ C (af t 0) 0 n.cells λz=>bA s a k 3 λu=>bX z u λf=>Calls prog 30 #[.pointer (some A),ab f,ab l] z λe F=>aK.ex λm=>∃ (g:Bool),e=.returned (.tuple #[m.val,ad g])/\aS F #[ab 0,ah 0,ah 0,ah 0,ah 0,ah 0,ah 0,ah 0,ah 0] 73 λv E=>a_ E (af v 0) 0 m.cells λo=>cond (!d) (R (ad false) o) (cond (!g) (R (ad false) o) (hI o (af t 0) λr=>hI o (af v 0) λy=>rW prog 73 r.val y.val λ(eq:Bool)=>cond (!eq) (R (ad false) o) (dX o (af t 1) λh=>cond (((fG .u64 h 255):Int) != 0) (R (ad false) o) (B (xA A s a b i k (i64.wrap (l+1)) (ag j 0 4 (jp (af t 0)::ad d::jp (af v 0)::ad g::ag j 8 15 (ab l::ab i::ad (l<i)::ab l::ab (i64.wrap (l+1))::.tuple #[n.val,ad d]::jp A::ae s a b::jp x::jp x::ab c::ab l::.tuple #[n.val,ad d]::n.val::ad d::.tuple #[m.val,ad g]::jp A::ae s a b::ab k::jp u::jp u::ab f::ab l::.tuple #[m.val,ad g]::m.val::ad g::ad d::ad (!d)::ad false::ad g::ad (!g)::ad (!g)::ad false::r.val::y.val::ad (!eq)::ad (!eq)::ad false::jp (af t 1)::ah h::ah (fG .u64 h 255)::ad (((fG .u64 h 255):Int) != 0)::ad (((fG .u64 h 255):Int) != 0)::ag j 66 74 [])))) o))))) (W prog (sb f27 [1,0,1,0,0,1,0,0,1]) (Gy A s a b i k (ag j 0 4 (ab l::ag j 4 19 (ab l::ab i::ad (l<i)::ag j 26 114 [])))) (aP 1 (aZ (λp w=>W prog (sb f27 [1,0,1,0,0,1,1]) p (aZ q (aP 0 (aU f27 [1,1] R))) w) (aZ q (aP 0 (aU f27 [1,1] R))))) w)):=by kernel_rfl
theorem UQ (c:ar->aF):W prog (sb f27 [1,0,1,0,0,1,0,0,1]) (Gy A s a b i k j) (aP 1 (aZ (λd w=>W prog (sb f27 [1,0,1,0,0,1,1]) d (aZ c (aP 0 (aU f27 [1,1] R))) w) (aZ c (aP 0 (aU f27 [1,1] R))))) w=(cG prog (c7 f27 [1,0,1,0,0,1,0,0,1,1,0,0]) (xB A s a b i k 0 (ag j 0 9 (ag j 10 131 []))) (aP 4 (aP 1 (aZ (λd w=>W prog (sb f27 [1,0,1,0,0,1,1]) d (aZ c (aP 0 (aU f27 [1,1] R))) w) (aZ c (aP 0 (aU f27 [1,1] R)))))) w):=by kernel_rfl
theorem TI (E:ar->aF) (N:ar->aF):W prog (sb f27 [1,0,1,0,0,1,0,0,1,1,0,0]) (xB A s a b i k l j) (aZ N (aP 4 (aP 1 (aZ (λI w=>W prog (sb f27 [1,0,1,0,0,1,1]) I (aZ E (aP 0 (aU f27 [1,1] R))) w) (aZ E (aP 0 (aU f27 [1,1] R))))))) w=(cond (l<6) (cw w λT B=>bA s a 0 3 λD=>cV B D λd=>ct 49 #[ab l] T λf H=>B H/\x1 20 #[.pointer (some A),ab d,ab f] H λg h Q=>cw Q λP L=>bA s a k 3 λx=>cV L x λe=>ct 49 #[ab l] P λF a'=>L a'/\x1 20 #[.pointer (some A),ab e,ab F] a' λu m X=>cw X λV a9=>bA s a 0 3 λy=>cV a9 y λn=>ct 50 #[ab l] V λo K=>a9 K/\x1 20 #[.pointer (some A),ab n,ab o] K λp q S=>cw S λz O=>bA s a k 3 λG=>cV O G λr=>ct 50 #[ab l] z λc M=>O M/\x1 20 #[.pointer (some A),ab r,ab c] M λt v C=>cond (!h) (R (ad false) C) (cond (!m) (R (ad false) C) (cond (!q) (R (ad false) C) (cond (!v) (R (ad false) C) (cond (g != u) (R (ad false) C) (cond (p != t) (R (ad false) C) (N (xB A s a b i k (i64.wrap (l+1)) (ag j 0 9 (ah g::ad h::ah u::ad m::ah p::ad q::ah t::ad v::ag j 17 49 [ab l,ad (l<6),ab l,ab (i64.wrap (l+1)),.tuple #[ah g,ad h],jp A,ae s a b,jp D,jp D,ab d,ab l,ab f,.tuple #[ah g,ad h],ah g,ad h,.tuple #[ah u,ad m],jp A,ae s a b,ab k,jp x,jp x,ab e,ab l,ab F,.tuple #[ah u,ad m],ah u,ad m,.tuple #[ah p,ad q],jp A,ae s a b,jp y,jp y,ab n,ab l,ab o,.tuple #[ah p,ad q],ah p,ad q,.tuple #[ah t,ad v],jp A,ae s a b,ab k,jp G,jp G,ab r,ab l,ab c,.tuple #[ah t,ad v],ah t,ad v,ad h,ad (!h),ad false,ad m,ad (!m),ad (!m),ad false,ad q,ad (!q),ad (!q),ad false,ad v,ad (!v),ad (!v),ad false,ah g,ah u,ad ((g:Int) != u),ad ((g:Int) != u),ad false,ah p,ah t,ad ((p:Int) != t),ad ((p:Int) != t)]))) C))))))) (W prog (sb f27 [1,0,1,0,0,1,1]) (Gz A s a b i k (ag j 0 9 (ab l::ag j 9 57 (ab l::ad (l<6)::ag j 68 72 [])))) (aZ E (aP 0 (aU f27 [1,1] R))) w)):=by kernel_rfl
theorem UR (c:ar->aF):W prog (sb f27 [1,0,1,0,0,1,1]) (Gz A s a b i k j) (aZ c (aP 0 (aU f27 [1,1] R))) w=(c (xr A s a b i (i64.wrap (k+1)) (ag j 0 22 (ab k::ab (i64.wrap (k+1))::ag j 24 117 []))) w):=by kernel_rfl
def xw (e:aX) (f:an) (a b:Nat) (c:aX) (d:Int) (j:ar):ar:=ag j 0 6 (.pointer (some e)::ag j 6 2 (ae f a b::ag j 8 1 (.pointer (some c)::ab d::ag j 9 39 [])))
def GD (a b:aX) (j:ar):ar:=ag j 0 6 (.pointer (some a)::ag j 6 4 (.pointer (some b)::ag j 10 40 []))
theorem W0:bf prog f30 [ba a,ab i,ab k] R w=(aS w #[ab 0,ah 0,ah 0,ah 0,ah 0,ah 0,ah 0,ah 0,ah 0] 73 λl u=>mL 39 #[ba a,ab i] u λj q=>cond (Option.isNone j) (a_ q (af l 0) 0 [ab 0,ah 0,ah 0,ah 0,ah 0,ah 0,ah 0,ah 0,ah 0] λn=>hI n (af l 0) λh=>n=n/\R (.tuple #[h.val,ad false]) n) (ct 54 #[ab k] q λb y=>sM 40 #[.pointer j,ab b,ab 8] y λc d f g m=>cond (g != 0) (a_ m (af l 0) 0 [ab 0,ah 0,ah 0,ah 0,ah 0,ah 0,ah 0,ah 0,ah 0] λp=>hI p (af l 0) λe=>p=p/\R (.tuple #[e.val,ad false]) p) (cond ((d:Int) != 8) (a_ m (af l 0) 0 [ab 0,ah 0,ah 0,ah 0,ah 0,ah 0,ah 0,ah 0,ah 0] λo=>hI o (af l 0) λr=>o=o/\R (.tuple #[r.val,ad false]) o) (bA c d 0 1 λt=>dX m t λx=>aS m #[ab 0,ah 0,ah 0,ah 0,ah 0,ah 0,ah 0,ah 0,ah 0] 73 λs v=>a_ v (af s 0) 0 [ab k,ah x,ah 0,ah 0,ah 0,ah 0,ah 0,ah 0,ah 0] λz=>cG prog (c7 f30 [1,1,1,1,1,1,0,1,0,0]) (xw (af l 0) c d f (af s 0) 0 (jp (af a 0)::ab i::ab k::bD 3 (ad false::.pointer j::ab g::jp (af a 0)::ab i::.pointer j::.pointer j::ad (Option.isNone j)::undef::.tuple #[ae c d f,ab g]::.pointer j::ab k::ab b::.tuple #[ae c d f,ab g]::ae c d f::ab g::ab g::ad ((g:Int) != 0)::ad false::ae c d f::eo d::ad ((d:Int) != 8)::ad ((d:Int) != 8)::undef::ab k::ae c d f::jp t::ah x::.agg #[ab k,ah x,ah 0,ah 0,ah 0,ah 0,ah 0,ah 0,ah 0]::bD 13 []))) (aP 0 (aU f30 [1,1,1,1,1,1,1] R)) z)))):=by kernel_rfl
theorem Ua (c:ar->aF):W prog (sb f30 [1,1,1,1,1,1,0,1,0,0]) (xw A s a b B i j) (aZ c (aP 0 (aU f30 [1,1,1,1,1,1,1] R))) w=(cond (i<7) (bA s a (i64.wrap (1+i)) 1 λd=>dX w d λx=>pw (bY B 2) 7 i 1 λf=>cP w f (ah x) λe=>c (xw A s a b B (i64.wrap (i+1)) (ag j 0 35 [ab i,ad (i<7),ab i,ab (i64.wrap (i+1)),ab i,ae s a b,ab i,ab (i64.wrap (1+i)),jp d,ah x,bL B 2,jp f,aO j 47])) e) (W prog (sb f30 [1,1,1,1,1,1,1]) (GD A B (ag j 0 8 (ae s a b::aO j 8::ab i::ag j 9 26 (ab i::ad (i<7)::ag j 37 11 [])))) (b7 f30 R) w)):=by kernel_rfl
theorem Vy:W prog (sb f30 [1,1,1,1,1,1,1]) (GD A B j) (b7 f30 R) w=(hI w B λr=>a_ w A 0 r.cells λa=>hI a A λc=>a=a/\R (.tuple #[c.val,ad true]) a):=by kernel_rfl
theorem V5:bf prog f41 [ab i] R w=(cond (i>=0) (R (ad (i<6)) w) (R (ad false) w)):=by kernel_rfl
theorem Wk:bf prog f49 [ab i] R w=(dn 41 #[ab i] w λa b=>cond (!a) (R (ab (-1)) b) (R (ab (i64.wrap (32+i))) b)):=by kernel_rfl
theorem Wv:bf prog f50 [ab i] R w=(dn 41 #[ab i] w λa b=>cond (!a) (R (ab (-1)) b) (R (ab (i64.wrap (24+i))) b)):=by kernel_rfl
theorem V6:bf prog f54 [ab i] R w=(cond (i<96) (R (ab (-1)) w) (cond (i>=256) (R (ab (-1)) w) (R (ab (i64.wrap (i * 8))) w))):=by kernel_rfl
end
section
theorem L6 (w:ak) (a:96<=l) (b:l<256):bb 54 [.int .i64 l] w λv w'=>v=.int .i64 (l * 8)/\w'=w:=by refine bd Tryz.func54 ?_;rw [V6];refine di (by simp;omega) (di (by simp;omega) ⟨?_,rfl⟩);rw [bH (by omega) (by omega)]
def aN.dx (n:aN) (l:Nat):aK:=⟨l,n.get (l * 8),n.get (l * 8+1),n.get (l * 8+2),n.get (l * 8+3),n.get (l * 8+4),n.get (l * 8+5),n.get (l * 8+6),n.get (l * 8+7)⟩
theorem L7 {at_ c q:Nat} (a:q<c) (d:at_+c<=n.words.length):(n.read at_ c)[q]?=some (n.get (at_+q)):=by unfold aN.read;have b:n.words[at_+q]?=some (n.get (at_+q)):=aN.get_some (by omega);rw [fD,fD,tl a,kv,b]
theorem L8 {l:Nat} (a:i<7):((n.dx l).cells.take (2+i)++List.replicate (7 - i) (Value.int .u64 0)).set (2+i) (Value.int .u64 (n.get (l * 8+(1+i))))=(n.dx l).cells.take (2+(i+1))++List.replicate (7 - (i+1)) (Value.int .u64 0):=by
 have h:i=0\/i=1\/i=2\/i=3\/i=4\/i=5\/i=6:=by omega
 rcases h with rfl | rfl | rfl | rfl | rfl | rfl | rfl<;>rfl
theorem tK {A:a6} {aw:Nat->Tag} {w:ak} {aJ:Nat} {X:bR} (h:b6 A aw w aJ X) {x:hF} (O:X.nodes[i]?=some x) {l:Nat} (XA:96<=l/\l<256) (hw:l * 8+8<=x.n.words.length) (aq:x.n.down=false) :
  bb 30 [ptr aJ,.int .i64 i,.int .i64 l] w λv w'=>v=.tuple #[(x.n.dx l).val,.bool true]/\ai w w':=by
 refine bd Tryz.func30 ?_;rw [ptr,W0];rintro b1 w1 G E;obtain ⟨g,t⟩:=bl G E;have g:av w1 b1 (aK.cells ⟨0,0,0,0,0,0,0,0,0⟩) eu:=g;clear E;have N:=h.new t;refine aD (Bq N O) ?_;rintro v bG ⟨rfl,rfl⟩;refine ⟨_,rfl,di rfl ?_⟩;refine aD (L6 _ (l:=(l:Int)) (by omega) (by omega)) ?_;rintro v XB ⟨rfl,rfl⟩;refine ⟨_,rfl,?_⟩;have p:x.n.e_ ((l:Int) * 8) 8=0:=by unfold aN.e_;rw [if_neg (by omega),if_neg (by simp [aq])]
 refine aD (v' (N.node i x O).node ((l:Int) * 8) 8) ?_;rintro v bq (⟨R,_⟩ | ⟨_,a,cap,rfl,u,Y,Xy⟩)
 ·exact absurd p R
 have S:∀ q,q<8->(x.n.read ((l:Int) * 8) 8)[q]?=some (x.n.get (l * 8+q)):=λq J=>by have:=L7 (n:=x.n) (at_:=l * 8) (c:=8) J (by omega);simpa using this
 have hlen:(x.n.read ((l:Int) * 8) 8).length=8:=aN.x3 p;have D:=Y.rd;obtain ⟨M,dw,rfl⟩:∃ b o,a=⟨b,o,none⟩:=by
  rcases D with K | ⟨b,o,he,_⟩
  ·have:=congrArg List.length K;simp [us,hlen] at this
  ·simp at he;exact ⟨b,o,he⟩
 have C:∀ z,ai bq z->∀ q,q<8->z.cell? ⟨M,dw+q,none⟩=some (.int .u64 (x.n.get (l * 8+q))):=λz au q J=>by
  rcases D.new au with K | ⟨b,o,he,r⟩
  ·have:=congrArg List.length K;simp [us,hlen] at this
  ·simp at he;obtain ⟨rfl,rfl⟩:=he;exact r q _ (by simp [us,S q J])
 have Z:=t.size;have Xv:=u.size;have V:=g.lt;refine ⟨_,_,_,_,rfl,di rfl (di rfl ?_)⟩;refine ej (by omega) (by decide) ⟨_,by simpa using C bq (ao.refl _ _) 0 (by omega),?_⟩;refine ec (vs:=aK.cells ⟨l,x.n.get (l * 8),0,0,0,0,0,0,0⟩) rfl (aK.single _) λaB XC Q L I=>?_
 refine c8 mix (λq env z=>∃ (i:Nat) (P:ax),q=7 - i/\i<=7/\env=xw ⟨b1,0,none⟩ (some ⟨M,dw,none⟩) 8 cap ⟨aB,0,none⟩ i P/\ai bq z/\av z aB ((x.n.dx l).cells.take (2+i)++List.replicate (7 - i) (.int .u64 0)) eu) 7
  ⟨0,_,rfl,by omega,rfl,I,L⟩ ?_
 rintro q env z ⟨i,P,rfl,Xz,rfl,f,d⟩;rw [Ua];refine bc (λW=>?_) (λT=>?_)
 ·have B:i<7:=by omega
  rw [bH (x:=1+(i:Int)) (by omega) (by omega)];refine ej (by omega) (by omega) ⟨x.n.get (l * 8+(1+i)),?_,?_⟩
  ·have:=C z f (1+i) (by omega);simpa [show (1+(i:Int)).toNat=1+i by omega] using this
  refine vf (by omega) (by omega) ?_;have e:0+2+(i:Int).toNat * 1=2+i:=by omega
  rw [e];refine rU d (by rw [dy,iG,yP,aK.len];omega) λXw j s=>?_
  rw [bH (x:=(i:Int)+1) (by omega) (by omega)];rw [L8 B] at j;exact ⟨7 - (i+1),by omega,i+1,_,rfl,by omega,rfl,f.trans s λk U e=>by have Xx:k=aB:=e;omega,j⟩
 ·have H:i=7:=by omega
  subst H;rw [Vy];have d:av z aB (x.n.dx l).cells eu:=d;have F:av z b1 (aK.cells ⟨0,0,0,0,0,0,0,0,0⟩) eu:=ai.aj (u.new f) g;refine aK.aT (x.n.dx l) ⟨bO d rfl,?_⟩;refine dQ F rfl (aK.single _) λXw y s=>?_
  refine aK.aT (x.n.dx l) ⟨bO y rfl,rfl,rfl,?_⟩;exact ((t.new u).new f).trans s λk U e=>by omega
end
end Go.Proofs.YtmkljjbioomepaaGreat
