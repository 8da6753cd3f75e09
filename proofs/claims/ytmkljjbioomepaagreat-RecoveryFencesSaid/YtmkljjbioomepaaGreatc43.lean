import Derived.Test.YtmkljjbioomepaaGreatc42
import Derived.Test.YtmkljjbioomepaaGreatProg
import Derived.Test.YtmkljjbioomepaaGreatc03
import Derived.Test.YtmkljjbioomepaaGreatc16
import Derived.Test.YtmkljjbioomepaaGreatc15
set_option linter.all false
set_option maxHeartbeats 4000000
set_option maxRecDepth 100000
namespace Go.Proofs.YtmkljjbioomepaaGreat
open Go.Proofs.Tryz Go.br
variable {a i k:Nat} {cs:cQ} {l:Int} {n:a0} {ts:List fQ}
section
open e1
theorem Bq:∀ {b_:List c4} {i:Nat} {x:fK},x ∈ mh i b_->∃ q p,b_[q]?=some p/\x=⟨((i+q:Nat):Int),p.a3,p.node⟩
 | [],i,x,h=>by simp [mh] at h
 |p::b_,i,x,h=>by
  unfold mh at h;rcases e9.1 h with e | h
  ·exact ⟨0,p,rfl,e⟩
  ·obtain ⟨q,p',a,b⟩:=Bq h;exact ⟨q+1,p',by simpa using a,by rw [b];congr 1;omega⟩
theorem KK (p:c4) (x:a0):(p.step x).1.node=p.node:=by
 unfold c4.step;split
 ·rfl
 ·simp only;split
  ·rfl
  ·split<;>rfl
structure tq (F G:aM):Prop where
 nodes:F.nodes=G.nodes
 lines:F.lines=G.lines
 gw:∀ k,k≠0->F.aX[k]?=G.aX[k]?
 dead:∀ C,F.aX[0]?=some C->C.aD=[]
 pS:∀ p ∈ F.bV,∃ C l,G.aX[0]?=some C/\C.aD[p.node.toNat]?=some l/\l.pair=p/\p.ba≠[]
 nodup:(F.bV.map λp=>p.node.toNat).Nodup
def gn (F G:aM):Prop:=F=G\/tq F G
section
variable {F G:aM}
theorem gn.nodes (h:gn F G):F.nodes=G.nodes:=by
 rcases h with h | h
 ·rw [h]
 ·exact h.nodes
theorem gn.lines (h:gn F G):F.lines=G.lines:=by
 rcases h with h | h
 ·rw [h]
 ·exact h.lines
theorem gn.gw (h:gn F G) {k:Nat} (a:k≠0):F.aX[k]?=G.aX[k]?:=by
 rcases h with h | h
 ·rw [h]
 ·exact h.gw k a
theorem tq.fp (h:tq F G) {k:Nat} (g:k≠0) (C':bP):tq (F.fp (k:Int) C') (G.fp (k:Int) C'):=by
 have d:∀ H:aM,(H.fp (k:Int) C').aX=H.aX.set k C':=λH=>rfl
 refine ⟨h.nodes,h.lines,λi o=>?_,λC j=>?_,λp q=>?_,h.nodup⟩
 ·rw [d,d];by_cases e:k=i
  ·subst e;rw [ik,ik,if_pos rfl,if_pos rfl];have:=h.gw k g;by_cases f:k<F.aX.length
   ·have c:k<G.aX.length:=ch (this.symm.trans (bF f));rw [if_pos f,if_pos c]
   ·have c:¬ k<G.aX.length:=λn=>f (ch (this.trans (bF n)))
    rw [if_neg f,if_neg c]
  ·rw [h6 e,h6 e];exact h.gw i o
 ·rw [d,h6 g] at j;exact h.dead C j
 ·obtain ⟨C,l,a,b⟩:=h.pS p q;exact ⟨C,l,by rw [d,h6 g];exact a,b⟩
theorem gn.fp (h:gn F G) {k:Nat} (a:k≠0) (C':bP):gn (F.fp (k:Int) C') (G.fp (k:Int) C'):=by
 rcases h with h | h
 ·exact .inl (by rw [h])
 ·exact .inr (h.fp a C')
theorem gn.take (h:gn F G) {k:Nat} (a:k≠0):(F.take (k:Int)).1=(G.take (k:Int)).1/\gn (F.take (k:Int)).2 (G.take (k:Int)).2:=by
 unfold aM.take;rw [jX,jX,h.gw a];split
 ·exact ⟨rfl,h⟩
 ·split
  ·exact ⟨rfl,h⟩
  ·split
   ·exact ⟨rfl,h⟩
   ·split
    ·exact ⟨rfl,h⟩
    ·exact ⟨rfl,h.fp a _⟩
theorem gn.post (h:gn F G) {k:Nat} (a:k≠0) (vs:List aP):(F.post (k:Int) vs).1=(G.post (k:Int) vs).1/\gn (F.post (k:Int) vs).2 (G.post (k:Int) vs).2:=by
 unfold aM.post;rw [jX,jX,h.gw a,h.nodes,h.lines];split
 ·exact ⟨rfl,h⟩
 split
 ·exact ⟨rfl,h⟩
 split
 ·exact ⟨rfl,h⟩
 split
 ·exact ⟨rfl,h⟩
 split
 ·exact ⟨rfl,h⟩
 split
 ·exact ⟨rfl,h⟩
 exact ⟨rfl,h.fp a _⟩
theorem gn.tail (h:gn F G) (c:k≠0) {jg:Conv} {t:b9 jg} (b:t.a3=(k:Int)):(kH F t).2=(kH G t).2/\gn (kH F t).1 (kH G t).1:=by
 unfold kH;rw [b];obtain ⟨d,a⟩:=h.post c (jg.next t.bN t.a7).1;rw [d];split
 ·exact ⟨rfl,h⟩
 split
 ·exact ⟨rfl,h⟩
 split
 ·exact ⟨rfl,a⟩
 ·exact ⟨rfl,a⟩
theorem gn.cV (h:gn F G) {k:Nat} (a:k≠0) {jg:Conv} {t:b9 jg} (b:t.a3=(k:Int)):(cV F t).2=(cV G t).2/\gn (cV F t).1 (cV G t).1:=by
 unfold Go.Proofs.YtmkljjbioomepaaGreat.cV;have c:F.alive (k:Int)=G.alive (k:Int):=by unfold aM.alive;rw [jX,jX,h.gw a]
 have d:F.waiting (k:Int)=G.waiting (k:Int):=by unfold aM.waiting;rw [jX,jX,h.gw a]
 rw [b,c,d];split
 ·exact ⟨rfl,h⟩
 ·obtain ⟨t1,t2⟩:=h.take a;rw [t1];refine t2.tail a ?_;cases (G.take (k:Int)).1<;>exact b
theorem GP (h:F.e0=[]) {C:bP} (a:F.aX[i]?=some C):hr C:=λk l b=>by
 cases an:l.pair.ba with
 |nil=>rfl
 |cons v vs=>
  have hm:(⟨-1,((0+i:Nat):Int),((0+k:Nat):Int)⟩:fK) ∈ F.e0:=by unfold aM.e0;exact jL.2 (.inl (w_.2 ⟨i,C,a,w9.2 ⟨k,l,b,by rw [an];simp,rfl⟩⟩))
  rw [h] at hm;cases hm
end
section
variable {E:Env} {rs:cQ} {F G:aM} {A:bA} {g:gC} {gr:Nat->c8}
theorem MD (h:hx E rs G A g gr) (Vt:gn F G) {x:fK} (K:x ∈ F.e0):∃ i m F' N,mG i m G=some N/\F.step x=(true,F')/\gn F' N/\(F=G->F'=N):=by
 have b:∀ {i m:Nat} {C:bP} {l:cP},G.aX[i]?=some C->C.aD[m]?=some l->l.pair.ba≠[]->∃ y,G.nodes[m]?=some y:=λ{i m C l} f c an=>by
  have Vu:=ch c;have Vs:=(h.g8.cj.ok.a3 i C f).aD;refine ⟨_,bF ?_⟩;split at Vs
  ·omega
  ·omega
 have r:∀ {l:cP},0<l.pair.ba.length->l.pair.ba≠[]/\l.pair.ba.length≠0:=λ{l} an=>⟨λe=>by rw [e] at an;simp at an,by omega⟩
 unfold aM.e0 at K;by_cases o:F=G
 ·subst o;rw [h.ib] at K;rcases jL.1 K with hm | hm
  ·obtain ⟨i,C,f,hm⟩:=w_.1 hm;obtain ⟨m,l,c,an,rfl⟩:=w9.1 hm;rw [g3,g3];obtain ⟨lJ,L⟩:=r an;obtain ⟨y,t⟩:=b f c lJ;have u:=sn.2 ⟨C,l,y,f,c,t,L,rfl⟩;exact ⟨i,m,_,_,u,An u,.inl rfl,λ_=>rfl⟩
  ·simp [mh] at hm
 ·have a:tq F G:=Vt.resolve_left o;rcases jL.1 K with hm | hm
  ·obtain ⟨i,C,f,hm⟩:=w_.1 hm;obtain ⟨m,l,c,an,rfl⟩:=w9.1 hm;rw [g3,g3];obtain ⟨lJ,L⟩:=r an;have X:i≠0:=λe=>by subst e;rw [a.dead C f] at c;simp at c
   have z:G.aX[i]?=some C:=by rw [<-a.gw i X];exact f
   obtain ⟨y,t⟩:=b z c lJ;have u:=sn.2 ⟨C,l,y,z,c,t,L,rfl⟩;have S:=sn.2 ⟨C,l,y,f,c,by rw [a.nodes];exact t,L,rfl⟩;refine ⟨i,m,_,_,u,An S,.inr ?_,λe=>absurd e o⟩;have:=a.fp X (C.comes m l (l.pair.step y).1 (l.pair.step y).2.2);exact ⟨by simp only [a.nodes],a.lines,this.gw,this.dead,this.pS,a.nodup⟩
  ·obtain ⟨q,p,H,rfl⟩:=Bq hm;rw [g3];have Z:=ch H;obtain ⟨C,l,f,c,rfl,an⟩:=a.pS p (cg H);obtain ⟨y,t⟩:=b f c an;have D:=ch f;have W:l.pair.ba.length≠0:=λe=>an (nP.1 e)
   have u:mG 0 l.pair.node.toNat G=some { G with nodes:=G.nodes.set l.pair.node.toNat (l.pair.step y).2.1,aX:=G.aX.set 0 (C.comes l.pair.node.toNat l (l.pair.step y).1 (l.pair.step y).2.2) }:=sn.2 ⟨C,l,y,f,c,t,W,rfl⟩;have T:F.step ⟨(q:Int),l.pair.a3,l.pair.node⟩=(true,{ F with nodes:=F.nodes.set l.pair.node.toNat (l.pair.step y).2.1,bV:=if (l.pair.step y).1.ba.length=0 then F.bV.eraseIdx q else F.bV.set q (l.pair.step y).1 }):=by unfold aM.step;rw [if_pos (by show (0:Int)<=(q:Int);omega)];unfold aM.iU;simp only [fY,H,a.nodes,t]
   have n:=KK l.pair y;refine ⟨0,_,_,_,u,T,.inr ⟨by simp only [a.nodes],a.lines,λk Y=>?_,a.dead,λp' s=>?_,?_⟩,λe=>absurd e o⟩
   ·show F.aX[k]?=(G.aX.set 0 _)[k]?;rw [h6 (λe=>Y e.symm)];exact a.gw k Y
   ·have d:∀ w,w ∈ F.bV.eraseIdx q->∃ M l2,(G.aX.set 0 (C.comes l.pair.node.toNat l (l.pair.step y).1 (l.pair.step y).2.2))[0]?=some M/\M.aD[w.node.toNat]?=some l2/\l2.pair=w/\w.ba≠[]:=by
     intro w I;obtain ⟨M,l2,B,Q,rfl,U⟩:=a.pS w (ye I);rw [f] at B;cases B;have r:l2.pair.node.toNat≠l.pair.node.toNat:=by
      obtain ⟨i2,j,P⟩:=List.mem_eraseIdx_iff_getElem?.1 I;intro e;have R:=a.nodup;have J:(F.bV.map λp=>p.node.toNat)[i2]?=some l.pair.node.toNat:=by rw [d',P];simp [e]
      have O:(F.bV.map λp=>p.node.toNat)[q]?=some l.pair.node.toNat:=by rw [d',H];rfl
      exact j ((ya (ch J) R).1 (J.trans O.symm))
     exact ⟨_,l2,jK D,by rw [kw r];exact Q,rfl,U⟩
    simp only at s;split at s
    ·exact d p' s
    ·rename_i V;obtain ⟨i2,j⟩:=eF.1 s;by_cases e:q=i2
     ·subst e;rw [jK Z] at j;cases j;obtain ⟨l',J,O⟩:=xo c (l.pair.step y).1 (l.pair.step y).2.2;exact ⟨_,l',jK D,by rw [n];exact J,O,λe=>V (by rw [e];rfl)⟩
     ·rw [h6 e] at j;exact d p' (List.mem_eraseIdx_iff_getElem?.2 ⟨i2,λVr=>e Vr.symm,j⟩)
   ·simp only;split
    ·exact a.nodup.sublist ((List.eraseIdx_sublist _ _).map _)
    ·rw [il,n];have:(F.bV.map λp=>p.node.toNat).set q l.pair.node.toNat=F.bV.map λp=>p.node.toNat:=by
      apply j';intro i;by_cases e:q=i
      ·subst e;rw [jK (by simpa using Z),d',H];rfl
      ·rw [h6 e]
     rw [this];exact a.nodup
theorem Lt (h:hx E rs G A g gr) (j:gn F G) (sch:bb) (n:Nat):(hc F sch n=(false,F)/\F.e0=[])\/∃ i m F' c,mG i m G=some c/\hc F sch n=(true,F')/\gn F' c/\(F=G->F'=c):=by
 unfold Go.Proofs.YtmkljjbioomepaaGreat.hc;cases f:F.e0[lg F sch n]? with
 |some x=>exact .inr (MD h j (cg f))
 |none=>
  refine .inl ⟨rfl,?_⟩;rcases x4 F.e0.length with e | a
  ·exact nP.1 e
  ·exfalso;have d:lg F sch n<F.e0.length:=by
    unfold lg;split
    ·have k:=x2 (sch.getD n 0) (b:=(F.e0.length:Int)) (by omega);have l:=yd (sch.getD n 0) (b:=(F.e0.length:Int)) (by omega);omega
    ·exact a
   rw [bF d] at f;cases f
theorem dm.trans {E:Env} {A B C:bA} (h:dm E A B) (a:dm E B C):dm E A C:=⟨λm x=>a.cF m (h.cF m x),λm x=>a.dK m (h.dK m x),λm x=>a.ey m (h.ey m x),λm x=>a.dh m (h.dh m x),λm l x=>a.bS m l (h.bS m l x)⟩
def hf (rs:cQ) (G:aM) (g:gC) (gr:Nat->c8):Nat:=dS G 0+oB g.aB+(rs.map λc=>dS G c+gx (gr c).aB).sum
structure kc (E:Env) (rs cs:cQ) (F:aM) (ts:List fQ) (G:aM) (A:bA) (g:gC) (gr:Nat->c8):Prop where
 oA:hx E rs G A g gr
 qW:gn F G
 len:ts.length=cs.length
 fO:∀ (k c:Nat) (t:fQ),cs[k]?=some c->ts[k]?=some t->(c=0/\F=G/\m2 E A g t)\/(c ∈ rs/\o9 E c (gr c) t)
def qk (rs:cQ) (G:aM) (g:gC) (gr:Nat->c8) (c:Nat):Prop:=(c=0->g.aB=6\/g.aB=7\/∃ C,G.aX[0]?=some C/\¬ hr C)/\(c ∈ rs->(gr c).aB=10\/(gr c).aB=11\/∃ C,G.aX[c]?=some C/\¬ hr C)
theorem yo (ay:b5 E) (x:∀ c ∈ rs,1<=c/\c<6) {cs:cQ} (M:cs.Nodup):∀ (l:List fQ) {pre:List fQ} {F G:aM} {g:gC} {gr:Nat->c8},kc E rs cs F (pre++l) G A g gr->
  ∃ H bU o,kc E rs cs (turns F l).1 (pre++(turns F l).2) H A bU o/\hf rs H bU o<=hf rs G g gr/\(∀ k c:Nat,k<pre.length->cs[k]?=some c->qk rs G g gr c->qk rs H bU o c)/\∀ k c:Nat,pre.length<=k->cs[k]?=some c->qk rs H bU o c
 | [],pre,F,G,g,gr,h=>⟨G,g,gr,h,cO _,λ_ _ _ _ p=>p,λk c Y Z=>by have:=h.len;have:=ch Z;simp at *;omega⟩
 |t::l,pre,F,G,g,gr,h=>by
  have D:0 ∉ rs:=λe=>by have:=x 0 e;omega
  have S:=h.len;rw [dH,hh] at S;obtain ⟨c,u⟩:∃ c,cs[pre.length]?=some c:=⟨_,bF (by omega)⟩;have Vs:(pre++t::l)[pre.length]?=some t:=by rw [hQ (cO _),mU];rfl
  have w:∀ {k:Nat},cs[k]?=some c->k=pre.length:=λ{k} d=>(ya (ch d) M).1 (d.trans u.symm)
  have hlen:((pre++[(cV F t).2])++l).length=cs.length:=by simp;omega
  have K:∀ {k c':Nat} {y:fQ},cs[k]?=some c'->((pre++[(cV F t).2])++l)[k]?=some y->(k=pre.length/\c'=c/\y=(cV F t).2)\/(c'≠c/\(pre++t::l)[k]?=some y):=λ{k c' y} d j=>by
   by_cases e:k=pre.length
   ·subst e;rw [ln,hQ (cO _),mU] at j;rw [u] at d;cases d;exact .inl ⟨rfl,rfl,(nN j).symm⟩
   ·refine .inr ⟨λR=>e (w (by rw [<-R];exact d)),?_⟩;rw [<-j,ln];by_cases N:k<pre.length
    ·rw [hP N,hP N]
    ·obtain ⟨z,au⟩:∃ z,k - pre.length=z+1:=⟨k - pre.length - 1,by omega⟩;rw [hQ (l₁:=pre) (l₂:=[(cV F t).2]++l) (show pre.length<=k by omega),hQ (l₁:=pre) (l₂:=t::l) (show pre.length<=k by omega),au];rfl
  have key:∃ J C q,kc E rs cs (cV F t).1 ((pre++[(cV F t).2])++l) J A C q/\hf rs J C q<=hf rs G g gr/\(∀ k c':Nat,k<pre.length->cs[k]?=some c'->qk rs G g gr c'->qk rs J C q c')/\qk rs J C q c:=by
   rcases h.fO _ c t u Vs with ⟨rfl,rfl,O⟩ | ⟨r,O⟩
   ·obtain ⟨C,P,Q,U,B,i,_⟩:=OP ay D h.oA O;refine ⟨_,C,gr,⟨P,.inl rfl,hlen,λk c' y d j=>?_⟩,?_,λk c' d a I=>?_,λ_=>?_,λe=>absurd e D⟩
    ·rcases K d j with ⟨_,rfl,rfl⟩ | ⟨f,g⟩
     ·exact .inl ⟨rfl,rfl,Q⟩
     ·rcases h.fO k c' y d g with ⟨e,_⟩ | b
      ·exact absurd e f
      ·exact .inr b
    ·have:(rs.map λc=>dS (cV F t).1 c+gx (gr c).aB).sum<=(rs.map λc=>dS F c+gx (gr c).aB).sum:=tg λk d=>by
      have:dS (cV F t).1 k=dS F k:=by unfold dS;rw [B k (λe=>D (by rw [<-e];exact d))]
      omega
     unfold hf;omega
    ·have f:c'≠0:=λe=>by rw [e] at a;have:=w a;omega
     refine ⟨λe=>absurd e f,λr=>?_⟩
     rw [B c' f];exact I.2 r
    ·rcases i with i | i | ⟨_,i⟩
     ·exact .inl i
     ·exact .inr (.inl i)
     ·exact .inr (.inr i)
   ·have Vr:=x c r;have n:c≠0:=by omega
    obtain ⟨s,P,Q,U,B,i,_⟩:=OR ay x h.oA r O;obtain ⟨b1,aA⟩:=h.qW.cV n O.dj;refine ⟨(cV G t).1,g,hN gr c s,⟨P,aA,hlen,λk c' y d j=>?_⟩,?_,λk c' d a I=>?_,λe=>absurd e n,λ_=>?_⟩
    ·rcases K d j with ⟨_,rfl,rfl⟩ | ⟨f,X⟩
     ·exact .inr ⟨r,by rw [eR,b1];exact Q⟩
     ·rcases h.fO k c' y d X with ⟨e,R,b⟩ | ⟨e,b⟩
      ·subst R;exact .inl ⟨e,rfl,b⟩
      ·exact .inr ⟨e,by rw [jT f];exact b⟩
    ·have Y:dS (cV G t).1 0=dS G 0:=by unfold dS;rw [B 0 (λe=>n e.symm)]
     have:(rs.map λk=>dS (cV G t).1 k+gx (hN gr c s k).aB).sum<=(rs.map λk=>dS G k+gx (gr k).aB).sum:=tg λk d=>by
      by_cases e:k=c
      ·subst e;rw [eR];exact U
      ·have:dS (cV G t).1 k=dS G k:=by unfold dS;rw [B k e]
       rw [jT e];omega
     unfold hf;omega
    ·have f:c'≠c:=λe=>by rw [e] at a;have:=w a;omega
     refine ⟨λe=>?_,λL=>?_⟩
     ·rw [B 0 (λe=>n e.symm)];exact I.1 e
     ·rw [B c' f,jT f];exact I.2 L
    ·rw [eR];rcases i with i | i | ⟨_,i⟩
     ·exact .inl i
     ·exact .inr (.inl i)
     ·exact .inr (.inr i)
  obtain ⟨J,C,q,Vt,Vu,Vv,Vw⟩:=key;obtain ⟨H,bU,o,V,Vx,W,Vy⟩:=yo ay x M l Vt;have T:turns F (t::l)=((turns (cV F t).1 l).1,(cV F t).2::(turns (cV F t).1 l).2):=rfl;rw [T];refine ⟨H,bU,o,by rw [ln] at V;exact V,ll Vx Vu,λk c' d a I=>W k c' (by simp;omega) a (Vv k c' d a I),λk c' d a=>?_⟩;by_cases e:k=pre.length
  ·subst e;rw [u] at a;cases a;exact W pre.length c (by simp) u Vw
  ·exact Vy k c' (by simp;omega) a
theorem ME (ay:b5 E) (l:∀ c ∈ rs,1<=c/\c<6) (h:kc E rs cs F ts G A g gr) {m:Nat} {F' f:aM} (z:mG i m G=some f) (y:gn F' f) (w:F=G->F'=f):∃ A' bU a,kc E rs cs F' ts f A' bU a/\hf rs f bU a<hf rs G g gr/\dm E A A':=by
 obtain ⟨A',bU,a,D,r,s,H,I,J,C,C',K,L,M,p⟩:=MW ay l h.oA z;have o:0 ∉ rs:=λe=>by have:=l 0 e;omega
 refine ⟨A',bU,a,⟨D,y,h.len,λk c t n B=>?_⟩,?_,I⟩
 ·rcases h.fO k c t n B with ⟨e,u,b⟩ | ⟨e,b⟩
  ·exact .inl ⟨e,w u,b.az r H⟩
  ·exact .inr ⟨e,b.az (s c)⟩
 ·have j:∀ c,(a c).aB=(gr c).aB:=λc=>yN (s c)
  have x:dS f i<dS G i:=by unfold dS;rw [K,L];exact M
  have d:∀ k,k≠i->dS f k=dS G k:=λk n=>by unfold dS;rw [p k n]
  unfold hf;rw [r];rcases J with e | e
  ·subst e;have:(rs.map λc=>dS f c+gx (a c).aB).sum<=(rs.map λc=>dS G c+gx (gr c).aB).sum:=tg λk n=>by rw [j,d k (λe=>o (by rw [<-e];exact n))];exact cO _
   omega
  ·have O:=l i e;have N:=d 0 (by omega);have:(rs.map λc=>dS f c+gx (a c).aB).sum<(rs.map λc=>dS G c+gx (gr c).aB).sum:=DB (i:=i) (λk n=>by
    rw [j];by_cases q:k=i
    ·subst q;omega
    ·rw [d k q];exact cO _) e (by rw [j];omega)
   omega
def s7 (ts:List fQ):Prop:=∀ t ∈ ts,t.eK=true
theorem MF (f:∀ c ∈ rs,1<=c/\c<6) (h:kc E rs cs F ts G A g gr) (q:∀ c ∈ cs,qk rs G g gr c) (n:F.e0=[]):s7 ts:=λt r=>by
 obtain ⟨k,l⟩:=eF.1 r;obtain ⟨c,j⟩:∃ c,cs[k]?=some c:=⟨_,bF (by rw [<-h.len];exact ch l)⟩;have i:=q c (cg j);rcases h.fO k c t j l with ⟨e,o,a⟩ | ⟨e,a⟩
 ·rcases i.1 e with p | p | ⟨C,b,d⟩
  ·exact (a.fin p).1
  ·exact (a.ref p).1
  ·subst o;exact absurd (GP n b) d
 ·rcases i.2 e with p | p | ⟨C,b,d⟩
  ·exact (a.fin p).1
  ·exact (a.busy p).1
  ·have:=f c e;rw [<-h.qW.gw (by omega)] at b;exact absurd (GP n b) d
theorem Au:∀ {ts:List fQ} {F:aM},s7 ts->turns F ts=(F,ts)
 | [],F,_=>rfl
 |t::ts,F,h=>by
  have a:cV F t=(F,t):=by unfold cV;rw [if_pos (.inl (h t e_))]
  show ((turns (cV F t).1 ts).1,(cV F t).2::(turns (cV F t).1 ts).2)=_;rw [a];show ((turns F ts).1,t::(turns F ts).2)=_;rw [Au λx b=>h x (fD _ b)]
theorem Eu (ay:b5 E) (a:∀ c ∈ rs,1<=c/\c<6) {cs:cQ} (j:cs.Nodup) (ds sch:bb):∀ (f n:Nat) {F G:aM} {ts:List fQ} {A:bA} {g:gC} {gr:Nat->c8},kc E rs cs F ts G A g gr->
  ∃ l A' bU d,kc E rs cs (hl ds sch [] f n F ts).1 (hl ds sch [] f n F ts).2 l A' bU d/\dm E A A'/\hf rs l bU d<=hf rs G g gr/\(hf rs G g gr<f->s7 (hl ds sch [] f n F ts).2/\(hl ds sch [] f n F ts).1.e0=[])
 | 0,n,F,G,ts,A,g,gr,h=>⟨G,A,g,gr,h,dm.refl E A,cO _,λhw=>by omega⟩
 |f+1,n,F,G,ts,A,g,gr,h=>by
  obtain ⟨s,u,o,b,I,_,J⟩:=yo ay a j ts (pre:=[]) h;rw [oQ] at b;unfold hl;have B:kn F ds n []=F:=rfl;rw [B];rcases Lt b.oA b.qW sch n with ⟨e,q⟩ | ⟨i,m,F',l,H,e,D,y⟩
  ·rw [e,if_neg (by simp)];refine ⟨s,A,u,o,b,dm.refl E A,I,λ_=>⟨MF a b (λc z=>?_) q,q⟩⟩;obtain ⟨k,C⟩:=eF.1 z;exact J k c (uU _) C
  ·rw [e,if_pos rfl];obtain ⟨P,Q,x,K,R,L⟩:=ME ay a b H D y;obtain ⟨t,r,w,p,M,N,S,O⟩:=Eu ay a j ds sch f (n+1) K;exact ⟨t,r,w,p,M,L.trans N,by omega,λhw=>O (by omega)⟩
theorem Ky (ay:b5 E) (d:∀ c ∈ rs,1<=c/\c<6) (b:cs.Nodup) (h:kc E rs cs F ts G A g gr) (sch:bb) (most:Nat) :
  ∃ f A' bU a,kc E rs cs (eX F ts sch [] most).1 (eX F ts sch [] most).2 f A' bU a/\dm E A A'/\hf rs f bU a<=hf rs G g gr/\(hf rs G g gr<most->s7 (eX F ts sch [] most).2/\(eX F ts sch [] most).1.e0=[]):=by
 unfold eX;obtain ⟨r,j,s,n,o,p,t,q⟩:=Eu ay d b (ts.map b9.a3) sch most 0 h;obtain ⟨k,l,e,i,u,_,_⟩:=yo ay d b _ (pre:=[]) o;rw [oQ] at i;refine ⟨k,j,l,e,i,p,by omega,λhw=>?_⟩
 have:=q hw;rw [Au this.1];exact this
theorem Cd (ay:b5 E) (j:∀ c ∈ rs,1<=c/\c<6) (i:cs.Nodup) (h:kc E rs cs F ts G A g gr) (sch:bb) (most:Nat) :
  ∃ f A' bU e,kc E rs cs (eX F ts sch [] most).1 (eX F ts sch [] most).2 f A' bU e/\dm E A A'/\hf rs f bU e<=hf rs G g gr/\(hf rs G g gr<most->s7 (eX F ts sch [] most).2):=by
 obtain ⟨f,A',bU,e,a,b,c,d⟩:=Ky ay j i h sch most;exact ⟨f,A',bU,e,a,b,c,λhw=>(d hw).1⟩
end
end
section
open e1

end
section
open e1
theorem Lu {x:Nat} (b:x<18446744073709551616):fq .u64 (x:Int) 255=((x % 256:Nat):Int):=by have a:fq .u64 (x:Int) ((2 ^ 8 - 1:Nat):Int)=(x:Int) % (2 ^ 8:Nat):=AI (by omega) (by omega) 8 (by omega);have a:fq .u64 (x:Int) 255=(x:Int) % 256:=a;rw [a];omega
theorem Br (b:256 * a<18446744073709551616) (c:k<255):eJ ((256 * a:Nat):Int) k=((256 * a+(k+1):Nat):Int):=by
 unfold eJ;have e:((k:Int)+1)=((k+1:Nat):Int):=by omega
 rw [e,uN _ _ b (by omega)];congr 1;exact (Nat.two_pow_add_eq_or_of_lt (i:=8) (by omega) a).symm
theorem MG:db .u64 ((256 * a:Nat):Int) 8=(a:Int):=by show Int.fdiv ((256 * a:Nat):Int) 256=_;rw [uS _ (by decide)];omega
theorem Kz (b:256 * (a+1)<18446744073709551616):lf ((256 * a:Nat):Int)=((256 * (a+1):Nat):Int):=by unfold lf;rw [MG];show IntKind.u64.wrap (((a:Int)+1) * 256)=_;rw [jH (by omega) (by omega)];omega
theorem Jl {p:aJ} (h:jW p=true):∃ a:Nat,p.Head=((256 * a:Nat):Int)/\1<=a/\a<=281474976710654:=by
 simp only [jW,kr,lS,eY,decide_eq_true_eq,beq_iff_eq] at h;obtain ⟨⟨b,c⟩,d⟩:=h;have e:db .u64 p.Head 8=p.Head / 256:=by show Int.fdiv p.Head 256=_;rw [uS _ (by decide)]
 rw [e] at b c;obtain ⟨x,f⟩:∃ x:Nat,p.Head=x:=⟨p.Head.toNat,by omega⟩;rw [f] at b c d ⊢;rw [Lu (by omega)] at d;exact ⟨x / 256,by omega,by omega,by omega⟩
theorem Lv {l:List aJ} (h:∀ i,i<l.length->jO l i=true):∀ a b (g:a<l.length) (f:b<l.length),a<b->l[a].bn<l[b].bn:=by
 intro a b g f j;induction b with
 |zero=>omega
 |succ b k=>
  have c:=h (b+1) f;simp only [jO,u2,decide_eq_true_eq,dD] at c;have d:b<l.length:=by omega
  rw [Nat.add_sub_cancel,bF d,bF f] at c;have c:l[b].bn<l[b+1].bn:=c.resolve_left (by omega);by_cases e:a=b
  ·subst e;exact c
  ·have:=k d (by omega);omega
theorem Bs {L:Int} (h:iw l L=true):∃ k:Nat,l=(k:Int)/\96<=k/\(k:Int)<L:=by simp only [iw,decide_eq_true_eq] at h;exact ⟨l.toNat,by omega,by omega,by omega⟩
theorem eu.RG {E:Env} {j:cS} (an:j.valid=0) (K:j.a3=(i:Int)) (J:i<6) (hw:j.v=j2 E.n) (R:j.lines=E.L) (F:j.writes≠[]) (M:∀ p ∈ j.writes,p.Head=E.base p.bn.toNat 0) (P:∀ s ∈ j.reads,s.Head=E.base s.bn.toNat 0):eu E i j:=by
 have D:=an;have hlen:0<j.writes.length:=u1.2 F;unfold cS.valid at an;split at an
 ·omega
 split at an
 ·next h=>exact absurd an h
 split at an
 ·omega
 next N=>
 split at an
 ·next h=>exact absurd an h.2
 next d=>
 split at an
 ·omega
 next I=>
 split at an
 ·omega
 next l=>
 split at an
 ·omega
 next o=>
 have d:fr j.seq j.writes j.lines=0:=Decidable.not_not.1 λe=>d ⟨hlen,e⟩
 unfold fr at d;split at d
 ·omega
 split at d
 ·omega
 next Q=>
 split at d
 ·omega
 next r=>
 split at d
 ·omega
 next f=>
 have r:∀ p ∈ j.writes,iw p.bn j.lines=true:=gQ.1 (by simpa using r);have l:∀ p ∈ j.reads,iw p.bn j.lines=true:=gQ.1 (by simpa using l);have f:∀ i,i<j.writes.length->jO j.writes i=true/\jW (j.writes.getD i hE)=true:=λi w=>by have:=gQ.1 (show (List.range j.writes.length).all (λi=>jO j.writes i && jW (j.writes.getD i hE))=true by simpa using f) i (fE.2 w);rwa [eY] at this
 have o:∀ i,i<j.reads.length->mB j.reads j.writes i=true:=λi w=>gQ.1 (show (List.range j.reads.length).all (mB j.reads j.writes)=true by simpa using o) i (fE.2 w)
 have g:=Lv λi w=>(f i w).1
 have u:∀ p ∈ j.writes,∃ a:Nat,p.Head=((256 * a:Nat):Int)/\1<=a/\a<=281474976710654:=λp c=>by obtain ⟨k,t,rfl⟩:=yb c;have:=(f k t).2;rw [dD,bF t] at this;exact Jl this
 refine ⟨K,J,D,hw,F,by omega,by omega,λp c=>?_,λp c=>?_,λp c q O e=>?_,?_,M,λp c k t=>?_,λp c=>?_,P,λs C p c e=>?_⟩
 ·obtain ⟨k,z,A,G⟩:=Bs (r p c);exact ⟨k,z,A,by omega⟩
 ·obtain ⟨k,z,A,G⟩:=Bs (l p c);exact ⟨k,z,A,by omega⟩
 ·obtain ⟨a,x,rfl⟩:=yb c;obtain ⟨b,y,rfl⟩:=yb O;rcases Nat.lt_trichotomy a b with h | h | h
  ·have:=g a b x y h;omega
  ·subst h;rfl
  ·have:=g b a y x h;omega
 ·rw [List.nodup_iff_pairwise_ne,List.pairwise_map,AN];intro a b x y B e;have:=g a b x y B;omega
 ·obtain ⟨a,e,d,H⟩:=u p c;rw [e,Br (by omega) (by omega),Br (by omega) (by omega)];exact ⟨by omega,λe=>by omega⟩
 ·obtain ⟨a,e,d,H⟩:=u p c;rw [e,Kz (by omega)];omega
 ·obtain ⟨k,t,rfl⟩:=yb C;have:=o k t;simp only [mB,eY,dD,bF t,rh,has,x9,decide_eq_true_eq] at this;exact this.2 p c e.symm
end
section
open e1
def tz (l k:Nat):Int:=if k=0 then 256 else 0
def u6 (n L:Nat):Bool:=
 let w:=fmt L n
 w.length == L * 8 && (w.getD 0 0 == 1 && (w.getD 1 0 == 1 && ((List.range 6).all (λc=>w.getD (24+c) 0 == 1 && w.getD (32+c) 0 == 0) && (List.range (L - 96)).all λq=>(List.range 8).all λk=>w.getD ((q+96) * 8+k) 0 == tz 0 k)))
end
section
open IntKind
variable (w:ak) (R:cA) {a b c:Nat} {s:al} {i k l:Int} {A B:aU} {j:aq}
def wP (c:aU) (s1:al) (a b:Nat) (s2 d:Int) (j:aq):aq:=.pointer (some c)::ae s1 a b::ab s2::ag j 0 4 (ab d::ag j 4 137 [])
def FD  (j:aq):aq:=ag j 0 145 []
def wV (c:aU) (s1:al) (a b:Nat) (s2 d s8:Int) (j:aq):aq:=.pointer (some c)::ae s1 a b::ab s2::ag j 0 4 (ab d::ab s8::ag j 4 136 [])
def FF (a:aU) (s1:al) (b c:Nat) (s2 d:Int) (j:aq):aq:=.pointer (some a)::ae s1 b c::ab s2::ag j 0 4 (ab d::ag j 4 137 [])
def wW (d:aU) (s1:al) (a b:Nat) (s2 e c:Int) (j:aq):aq:=.pointer (some d)::ae s1 a b::ab s2::ag j 0 4 (ab e::ag j 4 5 (ab c::ag j 9 131 []))
def FG (a:aU) (s1:al) (b c:Nat) (s2 d:Int) (j:aq):aq:=.pointer (some a)::ae s1 b c::ab s2::ag j 0 4 (ab d::ag j 4 137 [])
theorem Uz:bf prog f27 [a9 a,ae s b c,ab i] R w=(cu prog (c0 f27 [1,0,1,0,0]) (wP (af a 0) s b c i 0 (bd 3 (ad false::bd 137 []))) (aO 0 (aQ f27 [1,1] R)) w):=by kernel_rfl
theorem RA (c:aq->aE):W prog (sb f27 [1,0,1,0,0]) (wP A s a b i k j) (aV c (aO 0 (aQ f27 [1,1] R))) w=(cond (k<(a:Nat)) (cu prog (c0 f27 [1,0,1,0,0,1,0,0,0,1,0,0]) (wV A s a b i k 96 (ag j 0 4 (ag j 5 13 (ab k::ae s a b::c9 a::ad (k<(a:Nat))::ag j 22 119 [])))) (aO 2 (aV (λd w=>W prog (sb f27 [1,0,1,0,0,1,0,0,1]) d (aO 1 (aV (λd w=>W prog (sb f27 [1,0,1,0,0,1,1]) d (aV c (aO 0 (aQ f27 [1,1] R))) w) (aV c (aO 0 (aQ f27 [1,1] R))))) w) (aO 1 (aV (λd w=>W prog (sb f27 [1,0,1,0,0,1,1]) d (aV c (aO 0 (aQ f27 [1,1] R))) w) (aV c (aO 0 (aQ f27 [1,1] R))))))) w) (W prog (sb f27 [1,1]) (FD  (jp A::ae s a b::ab i::ag j 0 4 (ab k::ag j 4 14 (ab k::ae s a b::c9 a::ad (k<(a:Nat))::ag j 22 119 [])))) (b0 f27 R) w)):=by kernel_rfl
theorem ro:W prog (sb f27 [1,1]) (FD  j) (b0 f27 R) w=(R (ad true) w):=by kernel_rfl
theorem RB (q:aq->aE) (z:aq->aE):W prog (sb f27 [1,0,1,0,0,1,0,0,0,1,0,0]) (wV A s a b i k l j) (aV z (aO 2 (aV (λp w=>W prog (sb f27 [1,0,1,0,0,1,0,0,1]) p (aO 1 (aV (λp w=>W prog (sb f27 [1,0,1,0,0,1,1]) p (aV q (aO 0 (aQ f27 [1,1] R))) w) (aV q (aO 0 (aQ f27 [1,1] R))))) w) (aO 1 (aV (λp w=>W prog (sb f27 [1,0,1,0,0,1,1]) p (aV q (aO 0 (aQ f27 [1,1] R))) w) (aV q (aO 0 (aQ f27 [1,1] R)))))))) w=(cond (l<i) (bk s a 0 3 λx=>bt w x λc=>Calls prog 30 #[.pointer (some A),ab c,ab l] w λe E=>aJ.ex λn=>∃ (d:Bool),e=.returned (.tuple #[n.val,ad d])/\aR E #[ab 0,ah 0,ah 0,ah 0,ah 0,ah 0,ah 0,ah 0,ah 0] 73 λt D=>a8 D (af t 0) 0 n.cells λy=>bk s a k 3 λu=>bt y u λf=>Calls prog 30 #[.pointer (some A),ab f,ab l] y λe C=>aJ.ex λm=>∃ (g:Bool),e=.returned (.tuple #[m.val,ad g])/\aR C #[ab 0,ah 0,ah 0,ah 0,ah 0,ah 0,ah 0,ah 0,ah 0] 73 λv F=>a8 F (af v 0) 0 m.cells λo=>cond (!d) (R (ad false) o) (cond (!g) (R (ad false) o) (ht o (af t 0) λr=>ht o (af v 0) λB=>rI prog 73 r.val B.val λ(eq:Bool)=>cond (!eq) (R (ad false) o) (dp o (af t 1) λh=>cond (((fq .u64 h 255):Int) != 0) (R (ad false) o) (z (wV A s a b i k (i64.wrap (l+1)) (ag j 0 4 (jp (af t 0)::ad d::jp (af v 0)::ad g::ag j 8 15 (ab l::ab i::ad (l<i)::ab l::ab (i64.wrap (l+1))::.tuple #[n.val,ad d]::jp A::ae s a b::jp x::jp x::ab c::ab l::.tuple #[n.val,ad d]::n.val::ad d::.tuple #[m.val,ad g]::jp A::ae s a b::ab k::jp u::jp u::ab f::ab l::.tuple #[m.val,ad g]::m.val::ad g::ad d::ad (!d)::ad false::ad g::ad (!g)::ad (!g)::ad false::r.val::B.val::ad (!eq)::ad (!eq)::ad false::jp (af t 1)::ah h::ah (fq .u64 h 255)::ad (((fq .u64 h 255):Int) != 0)::ad (((fq .u64 h 255):Int) != 0)::ag j 66 74 [])))) o))))) (W prog (sb f27 [1,0,1,0,0,1,0,0,1]) (FF A s a b i k (ag j 0 4 (ab l::ag j 4 19 (ab l::ab i::ad (l<i)::ag j 26 114 [])))) (aO 1 (aV (λp w=>W prog (sb f27 [1,0,1,0,0,1,1]) p (aV q (aO 0 (aQ f27 [1,1] R))) w) (aV q (aO 0 (aQ f27 [1,1] R))))) w)):=by kernel_rfl
theorem Tc (c:aq->aE):W prog (sb f27 [1,0,1,0,0,1,0,0,1]) (FF A s a b i k j) (aO 1 (aV (λd w=>W prog (sb f27 [1,0,1,0,0,1,1]) d (aV c (aO 0 (aQ f27 [1,1] R))) w) (aV c (aO 0 (aQ f27 [1,1] R))))) w=(cu prog (c0 f27 [1,0,1,0,0,1,0,0,1,1,0,0]) (wW A s a b i k 0 (ag j 0 9 (ag j 10 131 []))) (aO 4 (aO 1 (aV (λd w=>W prog (sb f27 [1,0,1,0,0,1,1]) d (aV c (aO 0 (aQ f27 [1,1] R))) w) (aV c (aO 0 (aQ f27 [1,1] R)))))) w):=by kernel_rfl
theorem RC (F:aq->aE) (a1:aq->aE):W prog (sb f27 [1,0,1,0,0,1,0,0,1,1,0,0]) (wW A s a b i k l j) (aV a1 (aO 4 (aO 1 (aV (λX w=>W prog (sb f27 [1,0,1,0,0,1,1]) X (aV F (aO 0 (aQ f27 [1,1] R))) w) (aV F (aO 0 (aQ f27 [1,1] R))))))) w=(cond (l<6) (cq w λQ B=>bk s a 0 3 λG=>cL B G λd=>cm 49 #[ab l] Q λf L=>B L/\xl 20 #[.pointer (some A),ab d,ab f] L λg h I=>cq I λP N=>bk s a k 3 λx=>cL N x λe=>cm 49 #[ab l] P λD M=>N M/\xl 20 #[.pointer (some A),ab e,ab D] M λu m S=>cq S λT aW=>bk s a 0 3 λy=>cL aW y λn=>cm 50 #[ab l] T λo O=>aW O/\xl 20 #[.pointer (some A),ab n,ab o] O λp q V=>cq V λz H=>bk s a k 3 λE=>cL H E λr=>cm 50 #[ab l] z λc K=>H K/\xl 20 #[.pointer (some A),ab r,ab c] K λt v C=>cond (!h) (R (ad false) C) (cond (!m) (R (ad false) C) (cond (!q) (R (ad false) C) (cond (!v) (R (ad false) C) (cond (g != u) (R (ad false) C) (cond (p != t) (R (ad false) C) (a1 (wW A s a b i k (i64.wrap (l+1)) (ag j 0 9 (ah g::ad h::ah u::ad m::ah p::ad q::ah t::ad v::ag j 17 49 [ab l,ad (l<6),ab l,ab (i64.wrap (l+1)),.tuple #[ah g,ad h],jp A,ae s a b,jp G,jp G,ab d,ab l,ab f,.tuple #[ah g,ad h],ah g,ad h,.tuple #[ah u,ad m],jp A,ae s a b,ab k,jp x,jp x,ab e,ab l,ab D,.tuple #[ah u,ad m],ah u,ad m,.tuple #[ah p,ad q],jp A,ae s a b,jp y,jp y,ab n,ab l,ab o,.tuple #[ah p,ad q],ah p,ad q,.tuple #[ah t,ad v],jp A,ae s a b,ab k,jp E,jp E,ab r,ab l,ab c,.tuple #[ah t,ad v],ah t,ad v,ad h,ad (!h),ad false,ad m,ad (!m),ad (!m),ad false,ad q,ad (!q),ad (!q),ad false,ad v,ad (!v),ad (!v),ad false,ah g,ah u,ad ((g:Int) != u),ad ((g:Int) != u),ad false,ah p,ah t,ad ((p:Int) != t),ad ((p:Int) != t)]))) C))))))) (W prog (sb f27 [1,0,1,0,0,1,1]) (FG A s a b i k (ag j 0 9 (ab l::ag j 9 57 (ab l::ad (l<6)::ag j 68 72 [])))) (aV F (aO 0 (aQ f27 [1,1] R))) w)):=by kernel_rfl
theorem Td (c:aq->aE):W prog (sb f27 [1,0,1,0,0,1,1]) (FG A s a b i k j) (aV c (aO 0 (aQ f27 [1,1] R))) w=(c (wP A s a b i (i64.wrap (k+1)) (ag j 0 22 (ab k::ab (i64.wrap (k+1))::ag j 24 117 []))) w):=by kernel_rfl
def wR (e:aU) (f:al) (a b:Nat) (c:aU) (d:Int) (j:aq):aq:=ag j 0 6 (.pointer (some e)::ag j 6 2 (ae f a b::ag j 8 1 (.pointer (some c)::ab d::ag j 9 39 [])))
def FM (a b:aU) (j:aq):aq:=ag j 0 6 (.pointer (some a)::ag j 6 4 (.pointer (some b)::ag j 10 40 []))
theorem UO:bf prog f30 [a9 a,ab i,ab k] R w=(aR w #[ab 0,ah 0,ah 0,ah 0,ah 0,ah 0,ah 0,ah 0,ah 0] 73 λl y=>mx 39 #[a9 a,ab i] y λj s=>cond (Option.isNone j) (a8 s (af l 0) 0 [ab 0,ah 0,ah 0,ah 0,ah 0,ah 0,ah 0,ah 0,ah 0] λm=>ht m (af l 0) λh=>m=m/\R (.tuple #[h.val,ad false]) m) (cm 54 #[ab k] s λb v=>si 40 #[.pointer j,ab b,ab 8] v λc d f g n=>cond (g != 0) (a8 n (af l 0) 0 [ab 0,ah 0,ah 0,ah 0,ah 0,ah 0,ah 0,ah 0,ah 0] λo=>ht o (af l 0) λe=>o=o/\R (.tuple #[e.val,ad false]) o) (cond ((d:Int) != 8) (a8 n (af l 0) 0 [ab 0,ah 0,ah 0,ah 0,ah 0,ah 0,ah 0,ah 0,ah 0] λp=>ht p (af l 0) λq=>p=p/\R (.tuple #[q.val,ad false]) p) (bk c d 0 1 λt=>dp n t λx=>aR n #[ab 0,ah 0,ah 0,ah 0,ah 0,ah 0,ah 0,ah 0,ah 0] 73 λr z=>a8 z (af r 0) 0 [ab k,ah x,ah 0,ah 0,ah 0,ah 0,ah 0,ah 0,ah 0] λu=>cu prog (c0 f30 [1,1,1,1,1,1,0,1,0,0]) (wR (af l 0) c d f (af r 0) 0 (jp (af a 0)::ab i::ab k::bd 3 (ad false::.pointer j::ab g::jp (af a 0)::ab i::.pointer j::.pointer j::ad (Option.isNone j)::undef::.tuple #[ae c d f,ab g]::.pointer j::ab k::ab b::.tuple #[ae c d f,ab g]::ae c d f::ab g::ab g::ad ((g:Int) != 0)::ad false::ae c d f::c9 d::ad ((d:Int) != 8)::ad ((d:Int) != 8)::undef::ab k::ae c d f::jp t::ah x::.agg #[ab k,ah x,ah 0,ah 0,ah 0,ah 0,ah 0,ah 0,ah 0]::bd 13 []))) (aO 0 (aQ f30 [1,1,1,1,1,1,1] R)) u)))):=by kernel_rfl
theorem R3 (c:aq->aE):W prog (sb f30 [1,1,1,1,1,1,0,1,0,0]) (wR A s a b B i j) (aV c (aO 0 (aQ f30 [1,1,1,1,1,1,1] R))) w=(cond (i<7) (bk s a (i64.wrap (1+i)) 1 λd=>dp w d λx=>kT (bM B 2) 7 i 1 λf=>cH w f (ah x) λe=>c (wR A s a b B (i64.wrap (i+1)) (ag j 0 35 [ab i,ad (i<7),ab i,ab (i64.wrap (i+1)),ab i,ae s a b,ab i,ab (i64.wrap (1+i)),jp d,ah x,bI B 2,jp f,aF j 47])) e) (W prog (sb f30 [1,1,1,1,1,1,1]) (FM A B (ag j 0 8 (ae s a b::aF j 8::ab i::ag j 9 26 (ab i::ad (i<7)::ag j 37 11 [])))) (b0 f30 R) w)):=by kernel_rfl
theorem S6:W prog (sb f30 [1,1,1,1,1,1,1]) (FM A B j) (b0 f30 R) w=(ht w B λr=>a8 w A 0 r.cells λa=>ht a A λc=>a=a/\R (.tuple #[c.val,ad true]) a):=by kernel_rfl
theorem t7:bf prog f41 [ab i] R w=(cond (i>=0) (R (ad (i<6)) w) (R (ad false) w)):=by kernel_rfl
theorem T8:bf prog f49 [ab i] R w=(du 41 #[ab i] w λa b=>cond (!a) (R (ab (-1)) b) (R (ab (i64.wrap (32+i))) b)):=by kernel_rfl
theorem UB:bf prog f50 [ab i] R w=(du 41 #[ab i] w λa b=>cond (!a) (R (ab (-1)) b) (R (ab (i64.wrap (24+i))) b)):=by kernel_rfl
theorem t8:bf prog f54 [ab i] R w=(cond (i<96) (R (ab (-1)) w) (cond (i>=256) (R (ab (-1)) w) (R (ab (i64.wrap (i * 8))) w))):=by kernel_rfl
end
section
theorem Lw (w:ak) (a:96<=l) (b:l<256):a_ 54 [.int .i64 l] w λv w'=>v=.int .i64 (l * 8)/\w'=w:=by refine bc Tryz.func54 ?_;rw [t8];refine cR (by simp;omega) (cR (by simp;omega) ⟨?_,rfl⟩);rw [bC (by omega) (by omega)]
def a0.d_ (n:a0) (l:Nat):aJ:=⟨l,n.get (l * 8),n.get (l * 8+1),n.get (l * 8+2),n.get (l * 8+3),n.get (l * 8+4),n.get (l * 8+5),n.get (l * 8+6),n.get (l * 8+7)⟩
theorem Lz {at_ c q:Nat} (a:q<c) (d:at_+c<=n.words.length):(n.read at_ c)[q]?=some (n.get (at_+q)):=by unfold a0.read;have b:n.words[at_+q]?=some (n.get (at_+q)):=a0.get_some (by omega);rw [fY,fY,s0 a,lo,b]
theorem LA {l:Nat} (a:i<7):((n.d_ l).cells.take (2+i)++List.replicate (7 - i) (Value.int .u64 0)).set (2+i) (Value.int .u64 (n.get (l * 8+(1+i))))=(n.d_ l).cells.take (2+(i+1))++List.replicate (7 - (i+1)) (Value.int .u64 0):=by
 have h:i=0\/i=1\/i=2\/i=3\/i=4\/i=5\/i=6:=by omega
 rcases h with rfl | rfl | rfl | rfl | rfl | rfl | rfl<;>rfl
theorem AC {A:a5} {aw:Nat->Tag} {w:ak} {aN:Nat} {X:bQ} (h:bZ A aw w aN X) {x:g_} (O:X.nodes[i]?=some x) {l:Nat} (Vw:96<=l/\l<256) (hw:l * 8+8<=x.n.words.length) (ar:x.n.down=false) :
  a_ 30 [ptr aN,.int .i64 i,.int .i64 l] w λv w'=>v=.tuple #[(x.n.d_ l).val,.bool true]/\ai w w':=by
 refine bc Tryz.func30 ?_;rw [ptr,UO];rintro b1 w1 G E;obtain ⟨g,t⟩:=bl G E;have g:av w1 b1 (aJ.cells ⟨0,0,0,0,0,0,0,0,0⟩) ep:=g;clear E;have N:=h.new t;refine aC (Ax N O) ?_;rintro v bE ⟨rfl,rfl⟩;refine ⟨_,rfl,cR rfl ?_⟩;refine aC (Lw _ (l:=(l:Int)) (by omega) (by omega)) ?_;rintro v Vx ⟨rfl,rfl⟩;refine ⟨_,rfl,?_⟩;have p:x.n.e3 ((l:Int) * 8) 8=0:=by unfold a0.e3;rw [if_neg (by omega),if_neg (by simp [ar])]
 refine aC (vA (N.node i x O).node ((l:Int) * 8) 8) ?_;rintro v bu (⟨R,_⟩ | ⟨_,a,cap,rfl,u,Y,Vu⟩)
 ·exact absurd p R
 have S:∀ q,q<8->(x.n.read ((l:Int) * 8) 8)[q]?=some (x.n.get (l * 8+q)):=λq J=>by have:=Lz (n:=x.n) (at_:=l * 8) (c:=8) J (by omega);simpa using this
 have hlen:(x.n.read ((l:Int) * 8) 8).length=8:=a0.xm p;have D:=Y.rd;obtain ⟨M,dy,rfl⟩:∃ b o,a=⟨b,o,none⟩:=by
  rcases D with K | ⟨b,o,he,_⟩
  ·have:=congrArg List.length K;simp [us,hlen] at this
  ·simp at he;exact ⟨b,o,he⟩
 have C:∀ z,ai bu z->∀ q,q<8->z.cell? ⟨M,dy+q,none⟩=some (.int .u64 (x.n.get (l * 8+q))):=λz au q J=>by
  rcases D.new au with K | ⟨b,o,he,r⟩
  ·have:=congrArg List.length K;simp [us,hlen] at this
  ·simp at he;obtain ⟨rfl,rfl⟩:=he;exact r q _ (by simp [us,S q J])
 have Z:=t.size;have Vr:=u.size;have V:=g.lt;refine ⟨_,_,_,_,rfl,cR rfl (cR rfl ?_)⟩;refine ed (by omega) (by decide) ⟨_,by simpa using C bu (ao.refl _ _) 0 (by omega),?_⟩;refine ea (vs:=aJ.cells ⟨l,x.n.get (l * 8),0,0,0,0,0,0,0⟩) rfl (aJ.single _) λaA Vy Q L I=>?_
 refine c2 mix (λq env z=>∃ (i:Nat) (P:ax),q=7 - i/\i<=7/\env=wR ⟨b1,0,none⟩ (some ⟨M,dy,none⟩) 8 cap ⟨aA,0,none⟩ i P/\ai bu z/\av z aA ((x.n.d_ l).cells.take (2+i)++List.replicate (7 - i) (.int .u64 0)) ep) 7
  ⟨0,_,rfl,by omega,rfl,I,L⟩ ?_
 rintro q env z ⟨i,P,rfl,Vv,rfl,f,d⟩;rw [R3];refine a' (λW=>?_) (λT=>?_)
 ·have B:i<7:=by omega
  rw [bC (x:=1+(i:Int)) (by omega) (by omega)];refine ed (by omega) (by omega) ⟨x.n.get (l * 8+(1+i)),?_,?_⟩
  ·have:=C z f (1+i) (by omega);simpa [show (1+(i:Int)).toNat=1+i by omega] using this
  refine ns (by omega) (by omega) ?_;have e:0+2+(i:Int).toNat * 1=2+i:=by omega
  rw [e];refine rp d (by rw [dH,iG,yc,aJ.len];omega) λVs j s=>?_
  rw [bC (x:=(i:Int)+1) (by omega) (by omega)];rw [LA B] at j;exact ⟨7 - (i+1),by omega,i+1,_,rfl,by omega,rfl,f.trans s λk U e=>by have Vt:k=aA:=e;omega,j⟩
 ·have H:i=7:=by omega
  subst H;rw [S6];have d:av z aA (x.n.d_ l).cells ep:=d;have F:av z b1 (aJ.cells ⟨0,0,0,0,0,0,0,0,0⟩) ep:=ai.aj (u.new f) g;refine aJ.aS (x.n.d_ l) ⟨bK d rfl,?_⟩;refine dO F rfl (aJ.single _) λVs y s=>?_
  refine aJ.aS (x.n.d_ l) ⟨bK y rfl,rfl,rfl,?_⟩;exact ((t.new u).new f).trans s λk U e=>by omega
end
end Go.Proofs.YtmkljjbioomepaaGreat
