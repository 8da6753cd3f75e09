import Derived.Test.YtmkljjbioomepaaGreatb40
import Derived.Test.YtmkljjbioomepaaGreatProg
import Derived.Test.YtmkljjbioomepaaGreatb03
import Derived.Test.YtmkljjbioomepaaGreatb16
import Derived.Test.YtmkljjbioomepaaGreatb15
set_option linter.all false
set_option maxHeartbeats 4000000
set_option maxRecDepth 100000
namespace Go.Proofs.YtmkljjbioomepaaGreat
open Go.Proofs.Tryz Go.bu
variable {a i k:Nat} {cs:cP} {l:Int} {n:aZ} {ts:List e4} {x:fo}
section
open e7
theorem Ct:∀ {ch:List dg} {i:Nat} {x:fo},x ∈ mh i ch->∃ q p,ch[q]?=some p/\x=⟨((i+q:Nat):Int),p.a1,p.node⟩
 | [],i,x,h=>by simp [mh] at h
 |p::ch,i,x,h=>by
  unfold mh at h;rcases e6.1 h with e | h
  ·exact ⟨0,p,rfl,e⟩
  ·obtain ⟨q,p',a,b⟩:=Ct h;exact ⟨q+1,p',by simpa using a,by rw [b];congr 1;omega⟩
theorem L_ (p:dg) (x:aZ):(p.step x).1.node=p.node:=by
 unfold dg.step;split
 ·rfl
 ·simp only;split
  ·rfl
  ·split<;>rfl
structure tI (F G:aN):Prop where
 nodes:F.nodes=G.nodes
 lines:F.lines=G.lines
 gz:∀ k,k≠0->F.aV[k]?=G.aV[k]?
 dead:∀ C,F.aV[0]?=some C->C.aD=[]
 pW:∀ p ∈ F.bP,∃ C l,G.aV[0]?=some C/\C.aD[p.node.toNat]?=some l/\l.pair=p/\p.ba≠[]
 nodup:(F.bP.map λp=>p.node.toNat).Nodup
def gb (F G:aN):Prop:=F=G\/tI F G
section
variable {F G:aN}
theorem gb.nodes (h:gb F G):F.nodes=G.nodes:=by
 rcases h with h | h
 ·rw [h]
 ·exact h.nodes
theorem gb.lines (h:gb F G):F.lines=G.lines:=by
 rcases h with h | h
 ·rw [h]
 ·exact h.lines
theorem gb.gz (h:gb F G) {k:Nat} (a:k≠0):F.aV[k]?=G.aV[k]?:=by
 rcases h with h | h
 ·rw [h]
 ·exact h.gz k a
theorem tI.fs (h:tI F G) {k:Nat} (g:k≠0) (C':bU):tI (F.fs (k:Int) C') (G.fs (k:Int) C'):=by
 have d:∀ H:aN,(H.fs (k:Int) C').aV=H.aV.set k C':=λH=>rfl
 refine ⟨h.nodes,h.lines,λi o=>?_,λC j=>?_,λp q=>?_,h.nodup⟩
 ·rw [d,d];by_cases e:k=i
  ·subst e;rw [iu,iu,if_pos rfl,if_pos rfl];have:=h.gz k g;by_cases f:k<F.aV.length
   ·have c:k<G.aV.length:=cb (this.symm.trans (bD f));rw [if_pos f,if_pos c]
   ·have c:¬ k<G.aV.length:=λn=>f (cb (this.trans (bD n)))
    rw [if_neg f,if_neg c]
  ·rw [hW e,hW e];exact h.gz i o
 ·rw [d,hW g] at j;exact h.dead C j
 ·obtain ⟨C,l,a,b⟩:=h.pW p q;exact ⟨C,l,by rw [d,hW g];exact a,b⟩
theorem gb.fs (h:gb F G) {k:Nat} (a:k≠0) (C':bU):gb (F.fs (k:Int) C') (G.fs (k:Int) C'):=by
 rcases h with h | h
 ·exact .inl (by rw [h])
 ·exact .inr (h.fs a C')
theorem gb.take (h:gb F G) {k:Nat} (a:k≠0):(F.take (k:Int)).1=(G.take (k:Int)).1/\gb (F.take (k:Int)).2 (G.take (k:Int)).2:=by
 unfold aN.take;rw [jK,jK,h.gz a];split
 ·exact ⟨rfl,h⟩
 ·split
  ·exact ⟨rfl,h⟩
  ·split
   ·exact ⟨rfl,h⟩
   ·split
    ·exact ⟨rfl,h⟩
    ·exact ⟨rfl,h.fs a _⟩
theorem gb.post (h:gb F G) {k:Nat} (a:k≠0) (vs:List aW):(F.post (k:Int) vs).1=(G.post (k:Int) vs).1/\gb (F.post (k:Int) vs).2 (G.post (k:Int) vs).2:=by
 unfold aN.post;rw [jK,jK,h.gz a,h.nodes,h.lines];split
 ·exact ⟨rfl,h⟩
 split
 ·exact ⟨rfl,h⟩
 split
 ·exact ⟨rfl,h⟩
 split
 ·exact ⟨rfl,h⟩
 split
 ·exact ⟨rfl,h⟩
 split
 ·exact ⟨rfl,h⟩
 exact ⟨rfl,h.fs a _⟩
theorem gb.tail (h:gb F G) (c:k≠0) {jD:Conv} {t:b_ jD} (b:t.a1=(k:Int)):(kM F t).2=(kM G t).2/\gb (kM F t).1 (kM G t).1:=by
 unfold kM;rw [b];obtain ⟨d,a⟩:=h.post c (jD.next t.bM t.a4).1;rw [d];split
 ·exact ⟨rfl,h⟩
 split
 ·exact ⟨rfl,h⟩
 split
 ·exact ⟨rfl,a⟩
 ·exact ⟨rfl,a⟩
theorem gb.cZ (h:gb F G) {k:Nat} (a:k≠0) {jD:Conv} {t:b_ jD} (b:t.a1=(k:Int)):(cZ F t).2=(cZ G t).2/\gb (cZ F t).1 (cZ G t).1:=by
 unfold Go.Proofs.YtmkljjbioomepaaGreat.cZ;have c:F.alive (k:Int)=G.alive (k:Int):=by unfold aN.alive;rw [jK,jK,h.gz a]
 have d:F.waiting (k:Int)=G.waiting (k:Int):=by unfold aN.waiting;rw [jK,jK,h.gz a]
 rw [b,c,d];split
 ·exact ⟨rfl,h⟩
 ·obtain ⟨t1,t2⟩:=h.take a;rw [t1];refine t2.tail a ?_;cases (G.take (k:Int)).1<;>exact b
theorem Hd (h:F.dL=[]) {C:bU} (a:F.aV[i]?=some C):hr C:=λk l b=>by
 cases al:l.pair.ba with
 |nil=>rfl
 |cons v vs=>
  have hm:(⟨-1,((0+i:Nat):Int),((0+k:Nat):Int)⟩:fo) ∈ F.dL:=by unfold aN.dL;exact jT.2 (.inl (xv.2 ⟨i,C,a,xu.2 ⟨k,l,b,by rw [al];simp,rfl⟩⟩))
  rw [h] at hm;cases hm
end
section
variable {E:Env} {rs:cP} {F G:aN} {A:bt} {g:f_} {gr:Nat->c5}
theorem DQ (h:gD E rs G A g gr) (V3:gb F G) (K:x ∈ F.dL):∃ i m cJ M,mH i m G=some M/\F.step x=(true,cJ)/\gb cJ M/\(F=G->cJ=M):=by
 have b:∀ {i m:Nat} {C:bU} {l:cS},G.aV[i]?=some C->C.aD[m]?=some l->l.pair.ba≠[]->∃ y,G.nodes[m]?=some y:=λ{i m C l} f c al=>by
  have V4:=cb c;have V2:=(h.gn.cf.ok.a1 i C f).aD;refine ⟨_,bD ?_⟩;split at V2
  ·omega
  ·omega
 have r:∀ {l:cS},0<l.pair.ba.length->l.pair.ba≠[]/\l.pair.ba.length≠0:=λ{l} al=>⟨λe=>by rw [e] at al;simp at al,by omega⟩
 unfold aN.dL at K;by_cases o:F=G
 ·subst o;rw [h.hL] at K;rcases jT.1 K with hm | hm
  ·obtain ⟨i,C,f,hm⟩:=xv.1 hm;obtain ⟨m,l,c,al,rfl⟩:=xu.1 hm;rw [g6,g6];obtain ⟨lM,fR⟩:=r al;obtain ⟨y,t⟩:=b f c lM;have u:=sx.2 ⟨C,l,y,f,c,t,fR,rfl⟩;exact ⟨i,m,_,_,u,AO u,.inl rfl,λ_=>rfl⟩
  ·simp [mh] at hm
 ·have a:tI F G:=V3.resolve_left o;rcases jT.1 K with hm | hm
  ·obtain ⟨i,C,f,hm⟩:=xv.1 hm;obtain ⟨m,l,c,al,rfl⟩:=xu.1 hm;rw [g6,g6];obtain ⟨lM,fR⟩:=r al;have W:i≠0:=λe=>by subst e;rw [a.dead C f] at c;simp at c
   have z:G.aV[i]?=some C:=by rw [<-a.gz i W];exact f
   obtain ⟨y,t⟩:=b z c lM;have u:=sx.2 ⟨C,l,y,z,c,t,fR,rfl⟩;have R:=sx.2 ⟨C,l,y,f,c,by rw [a.nodes];exact t,fR,rfl⟩;refine ⟨i,m,_,_,u,AO R,.inr ?_,λe=>absurd e o⟩;have:=a.fs W (C.comes m l (l.pair.step y).1 (l.pair.step y).2.2);exact ⟨by simp only [a.nodes],a.lines,this.gz,this.dead,this.pW,a.nodup⟩
  ·obtain ⟨q,p,H,rfl⟩:=Ct hm;rw [g6];have Y:=cb H;obtain ⟨C,l,f,c,rfl,al⟩:=a.pW p (b7 H);obtain ⟨y,t⟩:=b f c al;have D:=cb f;have V:l.pair.ba.length≠0:=λe=>al (nZ.1 e)
   have u:mH 0 l.pair.node.toNat G=some { G with nodes:=G.nodes.set l.pair.node.toNat (l.pair.step y).2.1,aV:=G.aV.set 0 (C.comes l.pair.node.toNat l (l.pair.step y).1 (l.pair.step y).2.2) }:=sx.2 ⟨C,l,y,f,c,t,V,rfl⟩;have S:F.step ⟨(q:Int),l.pair.a1,l.pair.node⟩=(true,{ F with nodes:=F.nodes.set l.pair.node.toNat (l.pair.step y).2.1,bP:=if (l.pair.step y).1.ba.length=0 then F.bP.eraseIdx q else F.bP.set q (l.pair.step y).1 }):=by unfold aN.step;rw [if_pos (by show (0:Int)<=(q:Int);omega)];unfold aN.iZ;simp only [fU,H,a.nodes,t]
   have n:=L_ l.pair y;refine ⟨0,_,_,_,u,S,.inr ⟨by simp only [a.nodes],a.lines,λk X=>?_,a.dead,λp' s=>?_,?_⟩,λe=>absurd e o⟩
   ·show F.aV[k]?=(G.aV.set 0 _)[k]?;rw [hW (λe=>X e.symm)];exact a.gz k X
   ·have d:∀ w,w ∈ F.bP.eraseIdx q->∃ L l2,(G.aV.set 0 (C.comes l.pair.node.toNat l (l.pair.step y).1 (l.pair.step y).2.2))[0]?=some L/\L.aD[w.node.toNat]?=some l2/\l2.pair=w/\w.ba≠[]:=by
     intro w I;obtain ⟨L,l2,B,P,rfl,T⟩:=a.pW w (yz I);rw [f] at B;cases B;have r:l2.pair.node.toNat≠l.pair.node.toNat:=by
      obtain ⟨i2,j,O⟩:=List.mem_eraseIdx_iff_getElem?.1 I;intro e;have Q:=a.nodup;have J:(F.bP.map λp=>p.node.toNat)[i2]?=some l.pair.node.toNat:=by rw [dR,O];simp [e]
      have N:(F.bP.map λp=>p.node.toNat)[q]?=some l.pair.node.toNat:=by rw [dR,H];rfl
      exact j ((yw (cb J) Q).1 (J.trans N.symm))
     exact ⟨_,l2,jy D,by rw [ps r];exact P,rfl,T⟩
    simp only at s;split at s
    ·exact d p' s
    ·rename_i U;obtain ⟨i2,j⟩:=eh.1 s;by_cases e:q=i2
     ·subst e;rw [jy Y] at j;cases j;obtain ⟨l',J,N⟩:=xJ c (l.pair.step y).1 (l.pair.step y).2.2;exact ⟨_,l',jy D,by rw [n];exact J,N,λe=>U (by rw [e];rfl)⟩
     ·rw [hW e] at j;exact d p' (List.mem_eraseIdx_iff_getElem?.2 ⟨i2,λZ=>e Z.symm,j⟩)
   ·simp only;split
    ·exact a.nodup.sublist ((List.eraseIdx_sublist _ _).map _)
    ·rw [iv,n];have:(F.bP.map λp=>p.node.toNat).set q l.pair.node.toNat=F.bP.map λp=>p.node.toNat:=by
      apply kj;intro i;by_cases e:q=i
      ·subst e;rw [jy (by simpa using Y),dR,H];rfl
      ·rw [hW e]
     rw [this];exact a.nodup
theorem L' (h:gD E rs G A g gr) (j:gb F G) (sch:bd) (n:Nat):(hd F sch n=(false,F)/\F.dL=[])\/∃ i m cJ c,mH i m G=some c/\hd F sch n=(true,cJ)/\gb cJ c/\(F=G->cJ=c):=by
 unfold Go.Proofs.YtmkljjbioomepaaGreat.hd;cases f:F.dL[lo F sch n]? with
 |some x=>exact .inr (DQ h j (b7 f))
 |none=>
  refine .inl ⟨rfl,?_⟩;rcases yn F.dL.length with e | a
  ·exact nZ.1 e
  ·exfalso;have d:lo F sch n<F.dL.length:=by
    unfold lo;split
    ·have k:=u_ (sch.getD n 0) (b:=(F.dL.length:Int)) (by omega);have l:=vn (sch.getD n 0) (b:=(F.dL.length:Int)) (by omega);omega
    ·exact a
   rw [bD d] at f;cases f
theorem dp.trans {E:Env} {A B C:bt} (h:dp E A B) (a:dp E B C):dp E A C:=⟨λm x=>a.cG m (h.cG m x),λm x=>a.dJ m (h.dJ m x),λm x=>a.eB m (h.eB m x),λm x=>a.dj m (h.dj m x),λm l x=>a.bQ m l (h.bQ m l x)⟩
def g5 (rs:cP) (G:aN) (g:f_) (gr:Nat->c5):Nat:=dU G 0+oJ g.aB+(rs.map λc=>dU G c+gQ (gr c).aB).sum
structure kl (E:Env) (rs cs:cP) (F:aN) (ts:List e4) (G:aN) (A:bt) (g:f_) (gr:Nat->c5):Prop where
 ju:gD E rs G A g gr
 oK:gb F G
 len:ts.length=cs.length
 fS:∀ (k c:Nat) (t:e4),cs[k]?=some c->ts[k]?=some t->(c=0/\F=G/\og E A g t)\/(c ∈ rs/\l9 E c (gr c) t)
def qq (rs:cP) (G:aN) (g:f_) (gr:Nat->c5) (c:Nat):Prop:=(c=0->g.aB=6\/g.aB=7\/∃ C,G.aV[0]?=some C/\¬ hr C)/\(c ∈ rs->(gr c).aB=10\/(gr c).aB=11\/∃ C,G.aV[c]?=some C/\¬ hr C)
theorem yE (ay:b8 E) (x:∀ c ∈ rs,1<=c/\c<6) {cs:cP} (M:cs.Nodup):∀ (l:List e4) {pre:List e4} {F G:aN} {g:f_} {gr:Nat->c5},kl E rs cs F (pre++l) G A g gr->
  ∃ H bV o,kl E rs cs (turns F l).1 (pre++(turns F l).2) H A bV o/\g5 rs H bV o<=g5 rs G g gr/\(∀ k c:Nat,k<pre.length->cs[k]?=some c->qq rs G g gr c->qq rs H bV o c)/\∀ k c:Nat,pre.length<=k->cs[k]?=some c->qq rs H bV o c
 | [],pre,F,G,g,gr,h=>⟨G,g,gr,h,cQ _,λ_ _ _ _ p=>p,λk c X Y=>by have:=h.len;have:=cb Y;simp at *;omega⟩
 |t::l,pre,F,G,g,gr,h=>by
  have D:0 ∉ rs:=λe=>by have:=x 0 e;omega
  have R:=h.len;rw [dI,g7] at R;obtain ⟨c,u⟩:∃ c,cs[pre.length]?=some c:=⟨_,bD (by omega)⟩;have V2:(pre++t::l)[pre.length]?=some t:=by rw [hV (cQ _),mV];rfl
  have w:∀ {k:Nat},cs[k]?=some c->k=pre.length:=λ{k} d=>(yw (cb d) M).1 (d.trans u.symm)
  have hlen:((pre++[(cZ F t).2])++l).length=cs.length:=by simp;omega
  have K:∀ {k c':Nat} {y:e4},cs[k]?=some c'->((pre++[(cZ F t).2])++l)[k]?=some y->(k=pre.length/\c'=c/\y=(cZ F t).2)\/(c'≠c/\(pre++t::l)[k]?=some y):=λ{k c' y} d j=>by
   by_cases e:k=pre.length
   ·subst e;rw [lr,hV (cQ _),mV] at j;rw [u] at d;cases d;exact .inl ⟨rfl,rfl,(nX j).symm⟩
   ·refine .inr ⟨λQ=>e (w (by rw [<-Q];exact d)),?_⟩;rw [<-j,lr];by_cases N:k<pre.length
    ·rw [hU N,hU N]
    ·obtain ⟨z,au⟩:∃ z,k - pre.length=z+1:=⟨k - pre.length - 1,by omega⟩;rw [hV (l₁:=pre) (l₂:=[(cZ F t).2]++l) (show pre.length<=k by omega),hV (l₁:=pre) (l₂:=t::l) (show pre.length<=k by omega),au];rfl
  have key:∃ J C q,kl E rs cs (cZ F t).1 ((pre++[(cZ F t).2])++l) J A C q/\g5 rs J C q<=g5 rs G g gr/\(∀ k c':Nat,k<pre.length->cs[k]?=some c'->qq rs G g gr c'->qq rs J C q c')/\qq rs J C q c:=by
   rcases h.fS _ c t u V2 with ⟨rfl,rfl,O⟩ | ⟨r,O⟩
   ·obtain ⟨C,P,b0,T,B,i,_⟩:=OW ay D h.ju O;refine ⟨_,C,gr,⟨P,.inl rfl,hlen,λk c' y d j=>?_⟩,?_,λk c' d a I=>?_,λ_=>?_,λe=>absurd e D⟩
    ·rcases K d j with ⟨_,rfl,rfl⟩ | ⟨f,g⟩
     ·exact .inl ⟨rfl,rfl,b0⟩
     ·rcases h.fS k c' y d g with ⟨e,_⟩ | b
      ·exact absurd e f
      ·exact .inr b
    ·have:(rs.map λc=>dU (cZ F t).1 c+gQ (gr c).aB).sum<=(rs.map λc=>dU F c+gQ (gr c).aB).sum:=tF λk d=>by
      have:dU (cZ F t).1 k=dU F k:=by unfold dU;rw [B k (λe=>D (by rw [<-e];exact d))]
      omega
     unfold g5;omega
    ·have f:c'≠0:=λe=>by rw [e] at a;have:=w a;omega
     refine ⟨λe=>absurd e f,λr=>?_⟩
     rw [B c' f];exact I.2 r
    ·rcases i with i | i | ⟨_,i⟩
     ·exact .inl i
     ·exact .inr (.inl i)
     ·exact .inr (.inr i)
   ·have Z:=x c r;have n:c≠0:=by omega
    obtain ⟨s,P,b0,T,B,i,_⟩:=OY ay x h.ju r O;obtain ⟨b1,aA⟩:=h.oK.cZ n O.dm;refine ⟨(cZ G t).1,g,hQ gr c s,⟨P,aA,hlen,λk c' y d j=>?_⟩,?_,λk c' d a I=>?_,λe=>absurd e n,λ_=>?_⟩
    ·rcases K d j with ⟨_,rfl,rfl⟩ | ⟨f,W⟩
     ·exact .inr ⟨r,by rw [eT,b1];exact b0⟩
     ·rcases h.fS k c' y d W with ⟨e,Q,b⟩ | ⟨e,b⟩
      ·subst Q;exact .inl ⟨e,rfl,b⟩
      ·exact .inr ⟨e,by rw [kw f];exact b⟩
    ·have X:dU (cZ G t).1 0=dU G 0:=by unfold dU;rw [B 0 (λe=>n e.symm)]
     have:(rs.map λk=>dU (cZ G t).1 k+gQ (hQ gr c s k).aB).sum<=(rs.map λk=>dU G k+gQ (gr k).aB).sum:=tF λk d=>by
      by_cases e:k=c
      ·subst e;rw [eT];exact T
      ·have:dU (cZ G t).1 k=dU G k:=by unfold dU;rw [B k e]
       rw [kw e];omega
     unfold g5;omega
    ·have f:c'≠c:=λe=>by rw [e] at a;have:=w a;omega
     refine ⟨λe=>?_,λL=>?_⟩
     ·rw [B 0 (λe=>n e.symm)];exact I.1 e
     ·rw [B c' f,kw f];exact I.2 L
    ·rw [eT];rcases i with i | i | ⟨_,i⟩
     ·exact .inl i
     ·exact .inr (.inl i)
     ·exact .inr (.inr i)
  obtain ⟨J,C,q,V3,V4,V5,V6⟩:=key;obtain ⟨H,bV,o,U,V7,V,V8⟩:=yE ay x M l V3;have S:turns F (t::l)=((turns (cZ F t).1 l).1,(cZ F t).2::(turns (cZ F t).1 l).2):=rfl;rw [S];refine ⟨H,bV,o,by rw [lr] at U;exact U,lq V7 V4,λk c' d a I=>V k c' (by simp;omega) a (V5 k c' d a I),λk c' d a=>?_⟩;by_cases e:k=pre.length
  ·subst e;rw [u] at a;cases a;exact V pre.length c (by simp) u V6
  ·exact V8 k c' (by simp;omega) a
theorem DR (ay:b8 E) (l:∀ c ∈ rs,1<=c/\c<6) (h:kl E rs cs F ts G A g gr) {m:Nat} {cJ f:aN} (z:mH i m G=some f) (y:gb cJ f) (w:F=G->cJ=f):∃ A' bV a,kl E rs cs cJ ts f A' bV a/\g5 rs f bV a<g5 rs G g gr/\dp E A A':=by
 obtain ⟨A',bV,a,D,r,s,H,I,J,C,C',K,L,M,p⟩:=NQ ay l h.ju z;have o:0 ∉ rs:=λe=>by have:=l 0 e;omega
 refine ⟨A',bV,a,⟨D,y,h.len,λk c t n B=>?_⟩,?_,I⟩
 ·rcases h.fS k c t n B with ⟨e,u,b⟩ | ⟨e,b⟩
  ·exact .inl ⟨e,w u,b.az r H⟩
  ·exact .inr ⟨e,b.az (s c)⟩
 ·have j:∀ c,(a c).aB=(gr c).aB:=λc=>y_ (s c)
  have x:dU f i<dU G i:=by unfold dU;rw [K,L];exact M
  have d:∀ k,k≠i->dU f k=dU G k:=λk n=>by unfold dU;rw [p k n]
  unfold g5;rw [r];rcases J with e | e
  ·subst e;have:(rs.map λc=>dU f c+gQ (a c).aB).sum<=(rs.map λc=>dU G c+gQ (gr c).aB).sum:=tF λk n=>by rw [j,d k (λe=>o (by rw [<-e];exact n))];exact cQ _
   omega
  ·have O:=l i e;have N:=d 0 (by omega);have:(rs.map λc=>dU f c+gQ (a c).aB).sum<(rs.map λc=>dU G c+gQ (gr c).aB).sum:=Es (i:=i) (λk n=>by
    rw [j];by_cases q:k=i
    ·subst q;omega
    ·rw [d k q];exact cQ _) e (by rw [j];omega)
   omega
def p_ (ts:List e4):Prop:=∀ t ∈ ts,t.e0=true
theorem N1 (f:∀ c ∈ rs,1<=c/\c<6) (h:kl E rs cs F ts G A g gr) (q:∀ c ∈ cs,qq rs G g gr c) (n:F.dL=[]):p_ ts:=λt r=>by
 obtain ⟨k,l⟩:=eh.1 r;obtain ⟨c,j⟩:∃ c,cs[k]?=some c:=⟨_,bD (by rw [<-h.len];exact cb l)⟩;have i:=q c (b7 j);rcases h.fS k c t j l with ⟨e,o,a⟩ | ⟨e,a⟩
 ·rcases i.1 e with p | p | ⟨C,b,d⟩
  ·exact (a.fin p).1
  ·exact (a.ref p).1
  ·subst o;exact absurd (Hd n b) d
 ·rcases i.2 e with p | p | ⟨C,b,d⟩
  ·exact (a.fin p).1
  ·exact (a.busy p).1
  ·have:=f c e;rw [<-h.oK.gz (by omega)] at b;exact absurd (Hd n b) d
theorem AT:∀ {ts:List e4} {F:aN},p_ ts->turns F ts=(F,ts)
 | [],F,_=>rfl
 |t::ts,F,h=>by
  have a:cZ F t=(F,t):=by unfold cZ;rw [if_pos (.inl (h t e2))]
  show ((turns (cZ F t).1 ts).1,(cZ F t).2::(turns (cZ F t).1 ts).2)=_;rw [a];show ((turns F ts).1,t::(turns F ts).2)=_;rw [AT λx b=>h x (fu _ b)]
theorem EY (ay:b8 E) (a:∀ c ∈ rs,1<=c/\c<6) {cs:cP} (j:cs.Nodup) (ds sch:bd):∀ (f n:Nat) {F G:aN} {ts:List e4} {A:bt} {g:f_} {gr:Nat->c5},kl E rs cs F ts G A g gr->
  ∃ l A' bV d,kl E rs cs (hB ds sch [] f n F ts).1 (hB ds sch [] f n F ts).2 l A' bV d/\dp E A A'/\g5 rs l bV d<=g5 rs G g gr/\(g5 rs G g gr<f->p_ (hB ds sch [] f n F ts).2)
 | 0,n,F,G,ts,A,g,gr,h=>⟨G,A,g,gr,h,dp.refl E A,cQ _,λhw=>by omega⟩
 |f+1,n,F,G,ts,A,g,gr,h=>by
  obtain ⟨r,t,o,b,I,_,J⟩:=yE ay a j ts (pre:=[]) h;rw [mX] at b;unfold hB;have z:ku F ds n []=F:=rfl;rw [z];rcases L' b.ju b.oK sch n with ⟨e,C⟩ | ⟨i,m,cJ,l,H,e,D,x⟩
  ·rw [e,if_neg (by simp)];refine ⟨r,A,t,o,b,dp.refl E A,I,λ_=>N1 a b (λc y=>?_) C⟩;obtain ⟨k,B⟩:=eh.1 y;exact J k c (vc _) B
  ·rw [e,if_pos rfl];obtain ⟨P,Q,w,K,R,L⟩:=DR ay a b H D x;obtain ⟨s,q,u,p,M,N,S,O⟩:=EY ay a j ds sch f (n+1) K;exact ⟨s,q,u,p,M,L.trans N,by omega,λhw=>O (by omega)⟩
theorem Dg (ay:b8 E) (d:∀ c ∈ rs,1<=c/\c<6) (b:cs.Nodup) (h:kl E rs cs F ts G A g gr) (sch:bd) (most:Nat) :
  ∃ f A' bV a,kl E rs cs (eV F ts sch [] most).1 (eV F ts sch [] most).2 f A' bV a/\dp E A A'/\g5 rs f bV a<=g5 rs G g gr/\(g5 rs G g gr<most->p_ (eV F ts sch [] most).2):=by
 unfold eV;obtain ⟨r,j,s,n,o,p,t,q⟩:=EY ay d b (ts.map b_.a1) sch most 0 h;obtain ⟨k,l,e,i,u,_,_⟩:=yE ay d b _ (pre:=[]) o;rw [mX] at i;refine ⟨k,j,l,e,i,p,by omega,λhw=>?_⟩
 have:=q hw;rw [AT this];exact this
theorem N2 (ay:b8 E) (f:∀ c ∈ rs,1<=c/\c<6) (h:kl E rs cs F ts G A g gr) (p:x ∈ F.dL):∃ cJ b A' bV a,F.step x=(true,cJ)/\kl E rs cs cJ ts b A' bV a/\g5 rs b bV a<g5 rs G g gr/\dp E A A':=by obtain ⟨i,m,cJ,b,o,e,n,l⟩:=DQ h.ju h.oK p;obtain ⟨j,k,d,q,r,s⟩:=DR ay f h o n l;exact ⟨cJ,b,j,k,d,e,q,r,s⟩
end
end
section
open e7

end
section
open e7
theorem Ma {x:Nat} (b:x<18446744073709551616):fx .u64 (x:Int) 255=((x % 256:Nat):Int):=by have a:fx .u64 (x:Int) ((2 ^ 8 - 1:Nat):Int)=(x:Int) % (2 ^ 8:Nat):=A4 (by omega) (by omega) 8 (by omega);have a:fx .u64 (x:Int) 255=(x:Int) % 256:=a;rw [a];omega
theorem Cv (b:256 * a<18446744073709551616) (c:k<255):eK ((256 * a:Nat):Int) k=((256 * a+(k+1):Nat):Int):=by
 unfold eK;have e:((k:Int)+1)=((k+1:Nat):Int):=by omega
 rw [e,u5 _ _ b (by omega)];congr 1;exact (Nat.two_pow_add_eq_or_of_lt (i:=8) (by omega) a).symm
theorem N3:db .u64 ((256 * a:Nat):Int) 8=(a:Int):=by show Int.fdiv ((256 * a:Nat):Int) 256=_;rw [va _ (by decide)];omega
theorem Ku (b:256 * (a+1)<18446744073709551616):ln ((256 * a:Nat):Int)=((256 * (a+1):Nat):Int):=by unfold ln;rw [N3];show IntKind.u64.wrap (((a:Int)+1) * 256)=_;rw [jO (by omega) (by omega)];omega
theorem JR {p:aK} (h:j8 p=true):∃ a:Nat,p.Head=((256 * a:Nat):Int)/\1<=a/\a<=281474976710654:=by
 simp only [j8,pp,lV,e1,decide_eq_true_eq,beq_iff_eq] at h;obtain ⟨⟨b,c⟩,d⟩:=h;have e:db .u64 p.Head 8=p.Head / 256:=by show Int.fdiv p.Head 256=_;rw [va _ (by decide)]
 rw [e] at b c;obtain ⟨x,f⟩:∃ x:Nat,p.Head=x:=⟨p.Head.toNat,by omega⟩;rw [f] at b c d ⊢;rw [Ma (by omega)] at d;exact ⟨x / 256,by omega,by omega,by omega⟩
theorem Mb {l:List aK} (h:∀ i,i<l.length->j0 l i=true):∀ a b (g:a<l.length) (f:b<l.length),a<b->l[a].bo<l[b].bo:=by
 intro a b g f j;induction b with
 |zero=>omega
 |succ b k=>
  have c:=h (b+1) f;simp only [j0,vk,decide_eq_true_eq,dF] at c;have d:b<l.length:=by omega
  rw [Nat.add_sub_cancel,bD d,bD f] at c;have c:l[b].bo<l[b+1].bo:=c.resolve_left (by omega);by_cases e:a=b
  ·subst e;exact c
  ·have:=k d (by omega);omega
theorem Cw {L:Int} (h:iB l L=true):∃ k:Nat,l=(k:Int)/\96<=k/\(k:Int)<L:=by simp only [iB,decide_eq_true_eq] at h;exact ⟨l.toNat,by omega,by omega,by omega⟩
theorem ey.R' {E:Env} {j:cU} (al:j.valid=0) (K:j.a1=(i:Int)) (J:i<6) (hw:j.v=kc E.n) (R:j.lines=E.L) (F:j.writes≠[]) (M:∀ p ∈ j.writes,p.Head=E.base p.bo.toNat 0) (P:∀ s ∈ j.reads,s.Head=E.base s.bo.toNat 0):ey E i j:=by
 have D:=al;have hlen:0<j.writes.length:=vj.2 F;unfold cU.valid at al;split at al
 ·omega
 split at al
 ·next h=>exact absurd al h
 split at al
 ·omega
 next N=>
 split at al
 ·next h=>exact absurd al h.2
 next d=>
 split at al
 ·omega
 next I=>
 split at al
 ·omega
 next l=>
 split at al
 ·omega
 next o=>
 have d:fy j.seq j.writes j.lines=0:=Decidable.not_not.1 λe=>d ⟨hlen,e⟩
 unfold fy at d;split at d
 ·omega
 split at d
 ·omega
 next Q=>
 split at d
 ·omega
 next r=>
 split at d
 ·omega
 next f=>
 have r:∀ p ∈ j.writes,iB p.bo j.lines=true:=gU.1 (by simpa using r);have l:∀ p ∈ j.reads,iB p.bo j.lines=true:=gU.1 (by simpa using l);have f:∀ i,i<j.writes.length->j0 j.writes i=true/\j8 (j.writes.getD i hG)=true:=λi w=>by have:=gU.1 (show (List.range j.writes.length).all (λi=>j0 j.writes i && j8 (j.writes.getD i hG))=true by simpa using f) i (fJ.2 w);rwa [e1] at this
 have o:∀ i,i<j.reads.length->mJ j.reads j.writes i=true:=λi w=>gU.1 (show (List.range j.reads.length).all (mJ j.reads j.writes)=true by simpa using o) i (fJ.2 w)
 have g:=Mb λi w=>(f i w).1
 have u:∀ p ∈ j.writes,∃ a:Nat,p.Head=((256 * a:Nat):Int)/\1<=a/\a<=281474976710654:=λp c=>by obtain ⟨k,t,rfl⟩:=yx c;have:=(f k t).2;rw [dF,bD t] at this;exact JR this
 refine ⟨K,J,D,hw,F,by omega,by omega,λp c=>?_,λp c=>?_,λp c q O e=>?_,?_,M,λp c k t=>?_,λp c=>?_,P,λs C p c e=>?_⟩
 ·obtain ⟨k,z,A,G⟩:=Cw (r p c);exact ⟨k,z,A,by omega⟩
 ·obtain ⟨k,z,A,G⟩:=Cw (l p c);exact ⟨k,z,A,by omega⟩
 ·obtain ⟨a,x,rfl⟩:=yx c;obtain ⟨b,y,rfl⟩:=yx O;rcases Nat.lt_trichotomy a b with h | h | h
  ·have:=g a b x y h;omega
  ·subst h;rfl
  ·have:=g b a y x h;omega
 ·rw [List.nodup_iff_pairwise_ne,List.pairwise_map,Bb];intro a b x y B e;have:=g a b x y B;omega
 ·obtain ⟨a,e,d,H⟩:=u p c;rw [e,Cv (by omega) (by omega),Cv (by omega) (by omega)];exact ⟨by omega,λe=>by omega⟩
 ·obtain ⟨a,e,d,H⟩:=u p c;rw [e,Ku (by omega)];omega
 ·obtain ⟨k,t,rfl⟩:=yx C;have:=o k t;simp only [mJ,e1,dF,bD t,rq,has,yt,decide_eq_true_eq] at this;exact this.2 p c e.symm
end
section
open e7
def tP (l k:Nat):Int:=if k=0 then 256 else 0
def vp (n L:Nat):Bool:=
 let w:=fmt L n
 w.length == L * 8 && (w.getD 0 0 == 1 && (w.getD 1 0 == 1 && ((List.range 6).all (λc=>w.getD (24+c) 0 == 1 && w.getD (32+c) 0 == 0) && (List.range (L - 96)).all λq=>(List.range 8).all λk=>w.getD ((q+96) * 8+k) 0 == tP 0 k)))
end
section
open IntKind
variable (w:ak) (R:cB) {a b c:Nat} {s:an} {i k l:Int} {A B:aS} {j:aq}
def xi (c:aS) (s1:an) (a b:Nat) (s2 d:Int) (j:aq):aq:=.pointer (some c)::ae s1 a b::ab s2::ag j 0 4 (ab d::ag j 4 137 [])
def F4  (j:aq):aq:=ag j 0 145 []
def xj (c:aS) (s1:an) (a b:Nat) (s2 d s8:Int) (j:aq):aq:=.pointer (some c)::ae s1 a b::ab s2::ag j 0 4 (ab d::ab s8::ag j 4 136 [])
def F5 (a:aS) (s1:an) (b c:Nat) (s2 d:Int) (j:aq):aq:=.pointer (some a)::ae s1 b c::ab s2::ag j 0 4 (ab d::ag j 4 137 [])
def xk (d:aS) (s1:an) (a b:Nat) (s2 e c:Int) (j:aq):aq:=.pointer (some d)::ae s1 a b::ab s2::ag j 0 4 (ab e::ag j 4 5 (ab c::ag j 9 131 []))
def F6 (a:aS) (s1:an) (b c:Nat) (s2 d:Int) (j:aq):aq:=.pointer (some a)::ae s1 b c::ab s2::ag j 0 4 (ab d::ag j 4 137 [])
theorem ww:bf prog f27 [a_ a,ae s b c,ab i] R w=(cv prog (c0 f27 [1,0,1,0,0]) (xi (af a 0) s b c i 0 (bb 3 (ad false::bb 137 []))) (aM 0 (aP f27 [1,1] R)) w):=by kernel_rfl
theorem R5 (c:aq->aE):W prog (sb f27 [1,0,1,0,0]) (xi A s a b i k j) (aU c (aM 0 (aP f27 [1,1] R))) w=(cond (k<(a:Nat)) (cv prog (c0 f27 [1,0,1,0,0,1,0,0,0,1,0,0]) (xj A s a b i k 96 (ag j 0 4 (ag j 5 13 (ab k::ae s a b::cX a::ad (k<(a:Nat))::ag j 22 119 [])))) (aM 2 (aU (λd w=>W prog (sb f27 [1,0,1,0,0,1,0,0,1]) d (aM 1 (aU (λd w=>W prog (sb f27 [1,0,1,0,0,1,1]) d (aU c (aM 0 (aP f27 [1,1] R))) w) (aU c (aM 0 (aP f27 [1,1] R))))) w) (aM 1 (aU (λd w=>W prog (sb f27 [1,0,1,0,0,1,1]) d (aU c (aM 0 (aP f27 [1,1] R))) w) (aU c (aM 0 (aP f27 [1,1] R))))))) w) (W prog (sb f27 [1,1]) (F4  (jp A::ae s a b::ab i::ag j 0 4 (ab k::ag j 4 14 (ab k::ae s a b::cX a::ad (k<(a:Nat))::ag j 22 119 [])))) (bZ f27 R) w)):=by kernel_rfl
theorem Tf:W prog (sb f27 [1,1]) (F4  j) (bZ f27 R) w=(R (ad true) w):=by kernel_rfl
theorem R6 (q:aq->aE) (z:aq->aE):W prog (sb f27 [1,0,1,0,0,1,0,0,0,1,0,0]) (xj A s a b i k l j) (aU z (aM 2 (aU (λp w=>W prog (sb f27 [1,0,1,0,0,1,0,0,1]) p (aM 1 (aU (λp w=>W prog (sb f27 [1,0,1,0,0,1,1]) p (aU q (aM 0 (aP f27 [1,1] R))) w) (aU q (aM 0 (aP f27 [1,1] R))))) w) (aM 1 (aU (λp w=>W prog (sb f27 [1,0,1,0,0,1,1]) p (aU q (aM 0 (aP f27 [1,1] R))) w) (aU q (aM 0 (aP f27 [1,1] R)))))))) w=(cond (l<i) (bm s a 0 3 λx=>bS w x λc=>Calls prog 30 #[.pointer (some A),ab c,ab l] w λe C=>aK.ex λn=>∃ (d:Bool),e=.returned (.tuple #[n.val,ad d])/\aQ C #[ab 0,ah 0,ah 0,ah 0,ah 0,ah 0,ah 0,ah 0,ah 0] 73 λt E=>a' E (af t 0) 0 n.cells λB=>bm s a k 3 λu=>bS B u λf=>Calls prog 30 #[.pointer (some A),ab f,ab l] B λe F=>aK.ex λm=>∃ (g:Bool),e=.returned (.tuple #[m.val,ad g])/\aQ F #[ab 0,ah 0,ah 0,ah 0,ah 0,ah 0,ah 0,ah 0,ah 0] 73 λv D=>a' D (af v 0) 0 m.cells λo=>cond (!d) (R (ad false) o) (cond (!g) (R (ad false) o) (hv o (af t 0) λr=>hv o (af v 0) λy=>rU prog 73 r.val y.val λ(eq:Bool)=>cond (!eq) (R (ad false) o) (dr o (af t 1) λh=>cond (((fx .u64 h 255):Int) != 0) (R (ad false) o) (z (xj A s a b i k (i64.wrap (l+1)) (ag j 0 4 (jp (af t 0)::ad d::jp (af v 0)::ad g::ag j 8 15 (ab l::ab i::ad (l<i)::ab l::ab (i64.wrap (l+1))::.tuple #[n.val,ad d]::jp A::ae s a b::jp x::jp x::ab c::ab l::.tuple #[n.val,ad d]::n.val::ad d::.tuple #[m.val,ad g]::jp A::ae s a b::ab k::jp u::jp u::ab f::ab l::.tuple #[m.val,ad g]::m.val::ad g::ad d::ad (!d)::ad false::ad g::ad (!g)::ad (!g)::ad false::r.val::y.val::ad (!eq)::ad (!eq)::ad false::jp (af t 1)::ah h::ah (fx .u64 h 255)::ad (((fx .u64 h 255):Int) != 0)::ad (((fx .u64 h 255):Int) != 0)::ag j 66 74 [])))) o))))) (W prog (sb f27 [1,0,1,0,0,1,0,0,1]) (F5 A s a b i k (ag j 0 4 (ab l::ag j 4 19 (ab l::ab i::ad (l<i)::ag j 26 114 [])))) (aM 1 (aU (λp w=>W prog (sb f27 [1,0,1,0,0,1,1]) p (aU q (aM 0 (aP f27 [1,1] R))) w) (aU q (aM 0 (aP f27 [1,1] R))))) w)):=by kernel_rfl
theorem Tg (c:aq->aE):W prog (sb f27 [1,0,1,0,0,1,0,0,1]) (F5 A s a b i k j) (aM 1 (aU (λd w=>W prog (sb f27 [1,0,1,0,0,1,1]) d (aU c (aM 0 (aP f27 [1,1] R))) w) (aU c (aM 0 (aP f27 [1,1] R))))) w=(cv prog (c0 f27 [1,0,1,0,0,1,0,0,1,1,0,0]) (xk A s a b i k 0 (ag j 0 9 (ag j 10 131 []))) (aM 4 (aM 1 (aU (λd w=>W prog (sb f27 [1,0,1,0,0,1,1]) d (aU c (aM 0 (aP f27 [1,1] R))) w) (aU c (aM 0 (aP f27 [1,1] R)))))) w):=by kernel_rfl
theorem R7 (E:aq->aE) (H:aq->aE):W prog (sb f27 [1,0,1,0,0,1,0,0,1,1,0,0]) (xk A s a b i k l j) (aU H (aM 4 (aM 1 (aU (λT w=>W prog (sb f27 [1,0,1,0,0,1,1]) T (aU E (aM 0 (aP f27 [1,1] R))) w) (aU E (aM 0 (aP f27 [1,1] R))))))) w=(cond (l<6) (ct w λP B=>bm s a 0 3 λD=>cN B D λd=>cm 49 #[ab l] P λf O=>B O/\xI 20 #[.pointer (some A),ab d,ab f] O λg h S=>ct S λQ a6=>bm s a k 3 λx=>cN a6 x λe=>cm 49 #[ab l] Q λF a7=>a6 a7/\xI 20 #[.pointer (some A),ab e,ab F] a7 λu m X=>ct X λV N=>bm s a 0 3 λy=>cN N y λn=>cm 50 #[ab l] V λo L=>N L/\xI 20 #[.pointer (some A),ab n,ab o] L λp q I=>ct I λz K=>bm s a k 3 λG=>cN K G λr=>cm 50 #[ab l] z λc M=>K M/\xI 20 #[.pointer (some A),ab r,ab c] M λt v C=>cond (!h) (R (ad false) C) (cond (!m) (R (ad false) C) (cond (!q) (R (ad false) C) (cond (!v) (R (ad false) C) (cond (g != u) (R (ad false) C) (cond (p != t) (R (ad false) C) (H (xk A s a b i k (i64.wrap (l+1)) (ag j 0 9 (ah g::ad h::ah u::ad m::ah p::ad q::ah t::ad v::ag j 17 49 [ab l,ad (l<6),ab l,ab (i64.wrap (l+1)),.tuple #[ah g,ad h],jp A,ae s a b,jp D,jp D,ab d,ab l,ab f,.tuple #[ah g,ad h],ah g,ad h,.tuple #[ah u,ad m],jp A,ae s a b,ab k,jp x,jp x,ab e,ab l,ab F,.tuple #[ah u,ad m],ah u,ad m,.tuple #[ah p,ad q],jp A,ae s a b,jp y,jp y,ab n,ab l,ab o,.tuple #[ah p,ad q],ah p,ad q,.tuple #[ah t,ad v],jp A,ae s a b,ab k,jp G,jp G,ab r,ab l,ab c,.tuple #[ah t,ad v],ah t,ad v,ad h,ad (!h),ad false,ad m,ad (!m),ad (!m),ad false,ad q,ad (!q),ad (!q),ad false,ad v,ad (!v),ad (!v),ad false,ah g,ah u,ad ((g:Int) != u),ad ((g:Int) != u),ad false,ah p,ah t,ad ((p:Int) != t),ad ((p:Int) != t)]))) C))))))) (W prog (sb f27 [1,0,1,0,0,1,1]) (F6 A s a b i k (ag j 0 9 (ab l::ag j 9 57 (ab l::ad (l<6)::ag j 68 72 [])))) (aU E (aM 0 (aP f27 [1,1] R))) w)):=by kernel_rfl
theorem Th (c:aq->aE):W prog (sb f27 [1,0,1,0,0,1,1]) (F6 A s a b i k j) (aU c (aM 0 (aP f27 [1,1] R))) w=(c (xi A s a b i (i64.wrap (k+1)) (ag j 0 22 (ab k::ab (i64.wrap (k+1))::ag j 24 117 []))) w):=by kernel_rfl
def xe (e:aS) (f:an) (a b:Nat) (c:aS) (d:Int) (j:aq):aq:=ag j 0 6 (.pointer (some e)::ag j 6 2 (ae f a b::ag j 8 1 (.pointer (some c)::ab d::ag j 9 39 [])))
def F9 (a b:aS) (j:aq):aq:=ag j 0 6 (.pointer (some a)::ag j 6 4 (.pointer (some b)::ag j 10 40 []))
theorem Vq:bf prog f30 [a_ a,ab i,ab k] R w=(aQ w #[ab 0,ah 0,ah 0,ah 0,ah 0,ah 0,ah 0,ah 0,ah 0] 73 λl u=>mB 39 #[a_ a,ab i] u λj s=>cond (Option.isNone j) (a' s (af l 0) 0 [ab 0,ah 0,ah 0,ah 0,ah 0,ah 0,ah 0,ah 0,ah 0] λp=>hv p (af l 0) λh=>p=p/\R (.tuple #[h.val,ad false]) p) (cm 54 #[ab k] s λb z=>sE 40 #[.pointer j,ab b,ab 8] z λc d f g m=>cond (g != 0) (a' m (af l 0) 0 [ab 0,ah 0,ah 0,ah 0,ah 0,ah 0,ah 0,ah 0,ah 0] λo=>hv o (af l 0) λe=>o=o/\R (.tuple #[e.val,ad false]) o) (cond ((d:Int) != 8) (a' m (af l 0) 0 [ab 0,ah 0,ah 0,ah 0,ah 0,ah 0,ah 0,ah 0,ah 0] λn=>hv n (af l 0) λr=>n=n/\R (.tuple #[r.val,ad false]) n) (bm c d 0 1 λt=>dr m t λx=>aQ m #[ab 0,ah 0,ah 0,ah 0,ah 0,ah 0,ah 0,ah 0,ah 0] 73 λq v=>a' v (af q 0) 0 [ab k,ah x,ah 0,ah 0,ah 0,ah 0,ah 0,ah 0,ah 0] λy=>cv prog (c0 f30 [1,1,1,1,1,1,0,1,0,0]) (xe (af l 0) c d f (af q 0) 0 (jp (af a 0)::ab i::ab k::bb 3 (ad false::.pointer j::ab g::jp (af a 0)::ab i::.pointer j::.pointer j::ad (Option.isNone j)::undef::.tuple #[ae c d f,ab g]::.pointer j::ab k::ab b::.tuple #[ae c d f,ab g]::ae c d f::ab g::ab g::ad ((g:Int) != 0)::ad false::ae c d f::cX d::ad ((d:Int) != 8)::ad ((d:Int) != 8)::undef::ab k::ae c d f::jp t::ah x::.agg #[ab k,ah x,ah 0,ah 0,ah 0,ah 0,ah 0,ah 0,ah 0]::bb 13 []))) (aM 0 (aP f30 [1,1,1,1,1,1,1] R)) y)))):=by kernel_rfl
theorem SD (c:aq->aE):W prog (sb f30 [1,1,1,1,1,1,0,1,0,0]) (xe A s a b B i j) (aU c (aM 0 (aP f30 [1,1,1,1,1,1,1] R))) w=(cond (i<7) (bm s a (i64.wrap (1+i)) 1 λd=>dr w d λx=>kZ (bT B 2) 7 i 1 λf=>cI w f (ah x) λe=>c (xe A s a b B (i64.wrap (i+1)) (ag j 0 35 [ab i,ad (i<7),ab i,ab (i64.wrap (i+1)),ab i,ae s a b,ab i,ab (i64.wrap (1+i)),jp d,ah x,bq B 2,jp f,aF j 47])) e) (W prog (sb f30 [1,1,1,1,1,1,1]) (F9 A B (ag j 0 8 (ae s a b::aF j 8::ab i::ag j 9 26 (ab i::ad (i<7)::ag j 37 11 [])))) (bZ f30 R) w)):=by kernel_rfl
theorem T9:W prog (sb f30 [1,1,1,1,1,1,1]) (F9 A B j) (bZ f30 R) w=(hv w B λr=>a' w A 0 r.cells λa=>hv a A λc=>a=a/\R (.tuple #[c.val,ad true]) a):=by kernel_rfl
theorem UD:bf prog f41 [ab i] R w=(cond (i>=0) (R (ad (i<6)) w) (R (ad false) w)):=by kernel_rfl
theorem UT:bf prog f49 [ab i] R w=(de 41 #[ab i] w λa b=>cond (!a) (R (ab (-1)) b) (R (ab (i64.wrap (32+i))) b)):=by kernel_rfl
theorem Vd:bf prog f50 [ab i] R w=(de 41 #[ab i] w λa b=>cond (!a) (R (ab (-1)) b) (R (ab (i64.wrap (24+i))) b)):=by kernel_rfl
theorem UE:bf prog f54 [ab i] R w=(cond (i<96) (R (ab (-1)) w) (cond (i>=256) (R (ab (-1)) w) (R (ab (i64.wrap (i * 8))) w))):=by kernel_rfl
end
section
theorem LG (w:ak) (a:96<=l) (b:l<256):a9 54 [.int .i64 l] w λv w'=>v=.int .i64 (l * 8)/\w'=w:=by refine bc Tryz.func54 ?_;rw [UE];refine cV (by simp;omega) (cV (by simp;omega) ⟨?_,rfl⟩);rw [bC (by omega) (by omega)]
def aZ.d_ (n:aZ) (l:Nat):aK:=⟨l,n.get (l * 8),n.get (l * 8+1),n.get (l * 8+2),n.get (l * 8+3),n.get (l * 8+4),n.get (l * 8+5),n.get (l * 8+6),n.get (l * 8+7)⟩
theorem LH {at_ c q:Nat} (a:q<c) (d:at_+c<=n.words.length):(n.read at_ c)[q]?=some (n.get (at_+q)):=by unfold aZ.read;have b:n.words[at_+q]?=some (n.get (at_+q)):=aZ.get_some (by omega);rw [fU,fU,tg a,lu,b]
theorem LI {l:Nat} (a:i<7):((n.d_ l).cells.take (2+i)++List.replicate (7 - i) (Value.int .u64 0)).set (2+i) (Value.int .u64 (n.get (l * 8+(1+i))))=(n.d_ l).cells.take (2+(i+1))++List.replicate (7 - (i+1)) (Value.int .u64 0):=by
 have h:i=0\/i=1\/i=2\/i=3\/i=4\/i=5\/i=6:=by omega
 rcases h with rfl | rfl | rfl | rfl | rfl | rfl | rfl<;>rfl
theorem rF {A:a3} {aw:Nat->Tag} {w:ak} {aI:Nat} {X:bL} (h:b2 A aw w aI X) {x:g'} (O:X.nodes[i]?=some x) {l:Nat} (V7:96<=l/\l<256) (hw:l * 8+8<=x.n.words.length) (ar:x.n.down=false) :
  a9 30 [ptr aI,.int .i64 i,.int .i64 l] w λv w'=>v=.tuple #[(x.n.d_ l).val,.bool true]/\ai w w':=by
 refine bc Tryz.func30 ?_;rw [ptr,Vq];rintro b1 w1 G E;obtain ⟨g,t⟩:=bl G E;have g:av w1 b1 (aK.cells ⟨0,0,0,0,0,0,0,0,0⟩) et:=g;clear E;have N:=h.new t;refine aC (AY N O) ?_;rintro v bE ⟨rfl,rfl⟩;refine ⟨_,rfl,cV rfl ?_⟩;refine aC (LG _ (l:=(l:Int)) (by omega) (by omega)) ?_;rintro v V8 ⟨rfl,rfl⟩;refine ⟨_,rfl,?_⟩;have p:x.n.e_ ((l:Int) * 8) 8=0:=by unfold aZ.e_;rw [if_neg (by omega),if_neg (by simp [ar])]
 refine aC (vN (N.node i x O).node ((l:Int) * 8) 8) ?_;rintro v bk (⟨R,_⟩ | ⟨_,a,cap,rfl,u,Y,V5⟩)
 ·exact absurd p R
 have S:∀ q,q<8->(x.n.read ((l:Int) * 8) 8)[q]?=some (x.n.get (l * 8+q)):=λq J=>by have:=LH (n:=x.n) (at_:=l * 8) (c:=8) J (by omega);simpa using this
 have hlen:(x.n.read ((l:Int) * 8) 8).length=8:=aZ.xL p;have D:=Y.rd;obtain ⟨M,dy,rfl⟩:∃ b o,a=⟨b,o,none⟩:=by
  rcases D with K | ⟨b,o,he,_⟩
  ·have:=congrArg List.length K;simp [us,hlen] at this
  ·simp at he;exact ⟨b,o,he⟩
 have C:∀ z,ai bk z->∀ q,q<8->z.cell? ⟨M,dy+q,none⟩=some (.int .u64 (x.n.get (l * 8+q))):=λz au q J=>by
  rcases D.new au with K | ⟨b,o,he,r⟩
  ·have:=congrArg List.length K;simp [us,hlen] at this
  ·simp at he;obtain ⟨rfl,rfl⟩:=he;exact r q _ (by simp [us,S q J])
 have Z:=t.size;have V2:=u.size;have V:=g.lt;refine ⟨_,_,_,_,rfl,cV rfl (cV rfl ?_)⟩;refine ee (by omega) (by decide) ⟨_,by simpa using C bk (ao.refl _ _) 0 (by omega),?_⟩;refine ea (vs:=aK.cells ⟨l,x.n.get (l * 8),0,0,0,0,0,0,0⟩) rfl (aK.single _) λaA V9 Q L I=>?_
 refine c2 mix (λq env z=>∃ (i:Nat) (P:ax),q=7 - i/\i<=7/\env=xe ⟨b1,0,none⟩ (some ⟨M,dy,none⟩) 8 cap ⟨aA,0,none⟩ i P/\ai bk z/\av z aA ((x.n.d_ l).cells.take (2+i)++List.replicate (7 - i) (.int .u64 0)) et) 7
  ⟨0,_,rfl,by omega,rfl,I,L⟩ ?_
 rintro q env z ⟨i,P,rfl,V6,rfl,f,d⟩;rw [SD];refine a8 (λW=>?_) (λT=>?_)
 ·have B:i<7:=by omega
  rw [bC (x:=1+(i:Int)) (by omega) (by omega)];refine ee (by omega) (by omega) ⟨x.n.get (l * 8+(1+i)),?_,?_⟩
  ·have:=C z f (1+i) (by omega);simpa [show (1+(i:Int)).toNat=1+i by omega] using this
  refine nC (by omega) (by omega) ?_;have e:0+2+(i:Int).toNat * 1=2+i:=by omega
  rw [e];refine rL d (by rw [dI,iM,yy,aK.len];omega) λV3 j s=>?_
  rw [bC (x:=(i:Int)+1) (by omega) (by omega)];rw [LI B] at j;exact ⟨7 - (i+1),by omega,i+1,_,rfl,by omega,rfl,f.trans s λk U e=>by have V4:k=aA:=e;omega,j⟩
 ·have H:i=7:=by omega
  subst H;rw [T9];have d:av z aA (x.n.d_ l).cells et:=d;have F:av z b1 (aK.cells ⟨0,0,0,0,0,0,0,0,0⟩) et:=ai.aj (u.new f) g;refine aK.aR (x.n.d_ l) ⟨bJ d rfl,?_⟩;refine dQ F rfl (aK.single _) λV3 y s=>?_
  refine aK.aR (x.n.d_ l) ⟨bJ y rfl,rfl,rfl,?_⟩;exact ((t.new u).new f).trans s λk U e=>by omega
end
end Go.Proofs.YtmkljjbioomepaaGreat
