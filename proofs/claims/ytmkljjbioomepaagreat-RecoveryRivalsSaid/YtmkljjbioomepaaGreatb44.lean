import Derived.Test.YtmkljjbioomepaaGreatb42
import Derived.Test.YtmkljjbioomepaaGreatb43
import Derived.Test.YtmkljjbioomepaaGreatb04
import Derived.Test.YtmkljjbioomepaaGreatb13
set_option linter.all false
set_option maxHeartbeats 4000000
set_option maxRecDepth 100000
namespace Go.Proofs.YtmkljjbioomepaaGreat
open Go.Proofs.Tryz Go.bu
variable {A:a3} {F cJ G:aN} {X:bL} {a pa sa:an} {b:Bool} {c:Int} {cc aI m most n pc sc y:Nat} {g:f_} {gr:Nat->c5} {rs:cP} {c6:c3} {sch:bd} {t:b_ hh.conv} {ts:List e4} {u w:ak} {aw:Nat->Tag}
section
open hh
theorem Di {x:Int} (F:dN x):a9 19 [.int .i64 x] w λv u=>∃ a c,v=.slice a (ej (x % 14).toNat).length c/\bh u a (is (bB (ej (x % 14).toNat)))/\ai w u:=by
 refine bc Tryz.func19 ?_;rw [Uo];obtain ⟨y,G,j⟩:∃ y:Nat,x % 14=y/\y<14:=⟨(x % 14).toNat,by omega,by omega⟩;refine c2 mix (λm env u=>∃ (i:Nat) (a:an) (n c:Nat) (z:ax),m=4 - i/\i<=4/\n=(mu y i).length/\env=uw x a n c i z/\ai w u/\a0 u 3 1 a n c (is (bB (mu y i)))/\∀ k,aL a k->w.heap.size<=k) 4
  ⟨0,none,0,0,_,rfl,by omega,rfl,rfl,ao.refl _ _,a0.nil _ _ _,λk q=>(sR q).elim⟩ ?_
 rintro m env u ⟨i,a,n,c,z,rfl,H,rfl,rfl,l,d,f⟩;rw [RO];refine a8 (λh=>?_) (λD=>?_)
 ·have h:i<4:=by omega
  refine aC (rM _ _ _ F (by omega)) ?_;rintro v bE ⟨rfl,rfl⟩;rw [if_neg (by omega),G];refine ⟨_,rfl,?_⟩;have hlen:=IA y i;have A:IntKind.i64.wrap ((y:Int)+1)=((y+1:Nat):Int):=by rw [bC (by omega) (by omega)];omega
  have B:IntKind.u64.wrap (i:Int)=(i:Int):=jO (by omega) (by omega);dsimp only;rw [A,B,Ji y j i h,bC (x:=(i:Int)+1) (by omega) (by omega),bC (x:=96+(i:Int)) (by omega) (by omega)];refine ⟨by omega,fX (λp=>?_) (λp=>?_)⟩
  ·refine Mx d (x:=96+(i:Int)) (by omega) ?_;intro b ap cap bk C s r o;have E:=l.size;have g:=He y i;rw [if_pos p] at g;refine ⟨4 - (i+1),by omega,i+1,ap,_,cap,_,rfl,by omega,by rw [g,dI];rfl,rfl,sv l r f,?_,λk q=>?_⟩
   ·rw [g];have:is (bB (mu y i++[96+i]))=is (bB (mu y i)++[96+(i:Int)]):=by simp [is,bB]
    rw [this];exact s
   ·rcases o k q with t | t
    ·exact f k t
    ·omega
  ·have g:=He y i;rw [if_neg (by simp [p]),i'] at g;exact ⟨4 - (i+1),by omega,i+1,a,_,c,_,rfl,by omega,by rw [g],rfl,l,by rw [g];exact d,f⟩
 ·have:i=4:=by omega
  subst this;rw [R8];have e:(x % 14).toNat=y:=by omega
  rw [e];exact ⟨a,c,rfl,d.rd,l⟩
def u6:cj:=⟨0,0,⟨0⟩,⟨0,0,0,0,0⟩,⟨0,0,0,⟨0,none,0,0⟩,none,0,0,none,0,0⟩,⟨0,0,0,⟨0,none,0,0⟩,0,0,0⟩,none,0,0,false,false,0,⟨0,none,0,0⟩,0,none,0,0,0,0,0,0,0⟩
def jm (c seq lines:Int) (c6:c3) (df:an) (wl eN:Nat):cj:={ u6 with Kind:=3,Client:=c,en:=⟨c,seq,lines,c6,none,0,0,df,wl,eN⟩ }
def mE (c prev:Int) (c6:c3):cj:={ u6 with Kind:=4,Client:=c,Recover:=⟨c,1,101,c6,0,2,prev⟩ }
def ua (p:aK):aK:={ p with Head:=tH .u64 p.Head 255,vJ:=IntKind.u64.wrap (p.vJ+1) }
def pk (n:aZ) (L:cP):List aK:=L.map λl=>ua (n.d_ l)
theorem Cz (h:b2 A aw w aI X) (Wq:1<=n/\n<=5) {x:g'} (WE:X.nodes[0]?=some x) (ar:x.n.down=false)
  {L:cP} (Wu:∀ l ∈ L,96<=l/\l<256/\l * 8+8<=x.n.words.length) (hlen:L.length<=1000) (Wz:bh w a (is (bB L))) (c seq:Int) :
  a9 24 [ptr aI,.int .i64 n,.int .i64 c,.int .i64 seq,.slice a L.length cc] w λv u=>∃ c6 df eN,v=.tuple #[(jm c seq 101 c6 df L.length eN).val,.bool true]/\ai w u/\gd A u c6 (kc n)/\a0 u et 9 df L.length eN (h4 (pk x.n L)).flatten/\∀ k,aL df k->w.heap.size<=k:=by
 refine bc Tryz.func24 ?_;rw [ptr,T'];rintro b1 w1 V9 V;obtain ⟨f,Q⟩:=bl V9 V;have f:av w1 b1 u6.cells 45:=f;clear V;refine aC (yP _ (n:=n) (by omega) (by omega)) ?_;rintro v V7 ⟨c6,WL,rfl,al,j,_,rfl⟩;have Wy:=f.lt;have WA:=Q.size;have WB:=j.size;have al:gd (λk=>k<w1.heap.size\/V7.heap.size<=k) V7 c6 (kc n):=al.mono λk r d=>d.resolve_right (by omega)
 refine c3.aR c6 ⟨rfl,?_⟩;rintro aA WM N W;obtain ⟨V3,J⟩:=bl N W;have F:=ai.aj (j.new J) f;clear W;refine dQ (vs:=dv.cells ⟨c,seq,101,c6,none,0,0,none,0,0⟩) V3 rfl (dv.single ⟨c,seq,101,c6,none,0,0,none,0,0⟩) λWt V4 p=>?_
 have G:=p.aj F (by omega);have y:ai V7 Wt:=J.trans p λk r e=>by omega
 have K:ai w Wt:=(Q.new j).new y;have O:aA=V7.heap.size:=N;have Wg:=al.new y;clear f F V3 p J y;refine c2 mix (λq env z=>∃ (i:Nat) (df:an) (eN:Nat) (Wr:ax),q=L.length - i/\i<=L.length/\env=wR ⟨aI,0,none⟩ c a L.length cc ⟨b1,0,none⟩ ⟨aA,0,none⟩ i Wr/\ai w z/\gd (λk=>k<w1.heap.size\/V7.heap.size<=k) z c6 (kc n)/\av z b1 u6.cells 45/\av z aA (dv.cells ⟨c,seq,101,c6,none,0,0,df,i,eN⟩) 39/\a0 z et 9 df i eN (h4 (pk x.n (L.take i))).flatten/\∀ k,aL df k->aA<k) L.length
  ⟨0,none,0,_,rfl,by omega,rfl,K,Wg,G,V4,a0.nil _ _ _,λk d=>(sR d).elim⟩ ?_
 clear G V4;rintro q env z ⟨i,df,eN,Wr,rfl,WH,rfl,P,U,f,M,B,g⟩;rw [Rf];refine a8 (λr=>?_) (λWx=>?_)
 ·have t:i<L.length:=by omega
  obtain ⟨Wc,O,Wd⟩:=Wu L[i] (jS t);have Wo:(bB L)[i]?=some (L[i]:Int):=by simp [bB,t]
  have S:pk x.n (L.take (i+1))=pk x.n (L.take i)++[ua (x.n.d_ L[i])]:=by unfold pk;rw [Hy t,ja];rfl
  generalize L[i]=l at Wc O Wd Wo S;refine Az (Wz.new P) Wo rfl (by simp [bB]) λb o Ww=>⟨_,Ww _ (ao.refl _ _),?_⟩
  refine aC (rF (h.new P) WE (l:=l) (by omega) (by omega) ar) ?_;rintro v WI ⟨rfl,j⟩;refine aK.aR (x.n.d_ l) ⟨true,rfl,?_⟩;rintro Wl bk V_ T;obtain ⟨V6,R⟩:=bl V_ T;clear T;refine dQ (vs:=(x.n.d_ l).cells) V6 rfl (aK.single _) λWF au p=>?_
  have K:ai z WF:=(j.new R).trans p λk r e=>by have:=j.size;omega
  have Wn:z.heap.size<=Wl:=by have:=j.size;omega
  clear V6 R p;refine cV rfl ⟨_,au.cell (i:=1) rfl,?_⟩;refine rL au (o:=1) (by simp [aK.cells]) λWJ V5 Wa=>?_
  refine nC (by omega) (by omega) ⟨_,V5.cell (i:=2) rfl,?_⟩;refine nC (by omega) (by omega) ?_;refine rL V5 (o:=2) (by simp [aK.cells]) λWs Wi Wb=>?_
  have Wj:av Ws Wl (ua (x.n.d_ l)).cells et:=Wi;have s:ai z Ws:=K.trans (Wa.trans Wb λ_ _ h=>h) λk r e=>by omega
  have Y:=ai.aj s f;have H:=ai.aj s M;refine ⟨_,_,_,H.cell (i:=6) rfl,?_⟩;refine aK.aR (ua (x.n.d_ l)) ⟨bJ Wj rfl,?_⟩;refine N5 (B.new s) (by omega) ?_;intro WG ap cap u8 Wv Wf C V8;have Z:=C.aj Y (λe=>by have:=g b1 e;omega);have V2:=C.aj H (λe=>by have:=g aA e;omega);have Wp:=M.lt;have WC:=s.size;have WD:=P.size;have E:∀ k,aL ap k->aA<k:=λk d=>by
   rcases V8 k d with Wm | Wm
   ·exact g k Wm
   ·omega
  refine rL (b:=aA) V2 (o:=6) (by simp [dv.cells]) λWK Wk D=>?_
  rw [bC (x:=(i:Int)+1) (by omega) (by omega)];have We:ai w u8:=sv (P.new s) C λk d=>by have:=g k d;omega
  have Wh:=((U.new s).az C λk d=>.inr (by have:=g k d;omega)).az D λk e=>.inr (by omega)
  exact ⟨L.length - (i+1),by omega,i+1,ap,cap,_,rfl,by omega,rfl,We.trans D λk r e=>by omega,Wh,D.aj Z (by omega),Wk,by rw [S];exact Wf.az D λk d e=>by have:=E k d;omega,E⟩
 ·have V':i=L.length:=by omega
  subst V';rw [RS];rw [hx] at B;refine dv.aR ⟨c,seq,101,c6,none,0,0,df,L.length,eN⟩ ⟨bJ M rfl,?_⟩;refine dQ (vs:=(jm c seq 101 c6 df L.length eN).cells) f rfl (cj.single _) λbE au d=>?_
  refine cj.aR (jm c seq 101 c6 df L.length eN) ⟨bJ au rfl,rfl,c6,df,eN,rfl,P.trans d λk r e=>by omega,?_,B.az d λk I e=>by have:=g k I;omega,λk I=>by have:=g k I;omega⟩;exact (U.az d λk e=>.inl (by omega)).mono λk _ d=>.inl (by have:=h.low k d;omega)
theorem zK (l:∀ k,A k->k<w.heap.size) (j:1<=n/\n<=5) (c prev:Int) :
  a9 16 [.int .i64 n,.int .i64 c,.int .u64 prev] w λv u=>∃ c6,v=(mE c prev c6).val/\ai w u/\gd A u c6 (kc n):=by
 refine bc Tryz.func16 ?_;rw [UY];rintro b1 w1 h g;obtain ⟨a,d⟩:=bl h g;have a:av w1 b1 u6.cells 45:=a;clear g;refine aC (yP _ (n:=n) (by omega) (by omega)) ?_;rintro v t ⟨c6,s,rfl,al,f,_,rfl⟩;have r:=d.size;refine c3.aR c6 ⟨rfl,?_⟩;refine dQ (vs:=(mE c prev c6).cells) (ai.aj f a) rfl (cj.single _) λx i b=>?_
 refine cj.aR (mE c prev c6) ⟨bJ i rfl,rfl,c6,rfl,(d.new f).trans b λk q e=>by omega,?_⟩;have p:=a.lt;exact (al.az b λk e=>(by show k<w1.heap.size;omega)).mono λk _ o=>(by have:=l k o;show k<w1.heap.size;omega)
end
section
open hh
def zL (c:Int) (j:cU):b_ hh.conv:=⟨c,.inl j,[],false,false,.inl (0,0)⟩
def EZ (c:Int) (j:b3):b_ hh.conv:=⟨c,.inr j,[],false,false,.inr ⟨0,0,0,0,0⟩⟩
structure E1 (p:aK):Prop where
 head:ca p.Head
 data:∀ x ∈ hA p,ca x
theorem Dj {seq lines:Int} {df:an} {wl eN:Nat} {W:List aK} (al:gd A u c6 (kc n))
  (hw:bh u df (h4 W).flatten) (d:wl=W.length) (b:W.length<=1000000) (e:(h4 W).flatten=[]\/gl A df) (hu:∀ p ∈ W,E1 p) :
  ip A u (jm c seq lines c6 df wl eN) (zL c ⟨c,seq,lines,kc n,[],W⟩):=
 ⟨rfl,rfl,rfl,rfl,hI.nil _ _ _,rfl,cQ _,⟨⟨rfl,rfl,rfl,⟨A,al⟩,.inl rfl,rfl,by simp,⟨hw,d,b,λp a=>(hu p a).head⟩⟩,al,.inl rfl,e,λp a=>(hu p a).data⟩,⟨rfl,rfl⟩,by show ([]:List (List aO)).length<=201;simp⟩
theorem yF {prev:Int} (al:gd A u c6 (kc n)) (a:ca prev) :
  ip A u (mE c prev c6) (EZ c ⟨c,1,101,kc n,0,2,prev⟩):=
 ⟨rfl,rfl,rfl,rfl,hI.nil _ _ _,rfl,cQ _,⟨⟨rfl,rfl,rfl,⟨A,al⟩,rfl,rfl,rfl,a⟩,al⟩,⟨rfl,rfl,rfl,rfl⟩,by show ([]:List (List aO)).length<=201;simp⟩
structure jz (w z:ak) (aI:Nat) (A:a3) (aw:Nat->Tag) (X:bL) (F:aN):Prop where
 cd:b2 A aw z aI X
 pure:X.pure=F
 new:ai w z
 own:∀ k,A k->w.heap.size<=k
section
variable {w z:ak} {aI:Nat} {A:a3} {aw:Nat->Tag} {X:bL} {F:aN}
theorem jz.iE {b:ak} (h:jz w z aI A aw X F) (a:ai z b):jz w b aI A aw X F:=⟨h.cd.new a,h.pure,h.new.new a,h.own⟩
theorem jz.op {K:(a3)->Prop} (h:jz w z aI A aw X F) (p:dT A aw z aI cJ u K):∃ A' χ' e,jz w u aI A' χ' e cJ/\K A'/\ao A z u/\∀ k,k<z.heap.size->A' k->A k:=by
 obtain ⟨A',χ',e,g,i,l,j⟩:=p;have d:ao A z u:=g.az.mono λk _ n=>h.cd.e9 k n
 have a:∀ k,k<z.heap.size->A' k->A k:=λk b c=>by
  rcases (g.iff k).1 c with f | ⟨_,f,_⟩
  ·exact h.cd.e9 k (g.grow k b f)
  ·exact f
 refine ⟨A',χ',e,⟨i,l,h.new.trans d λk b c=>by have:=h.own k c;omega,λk c=>?_⟩,j,d,a⟩;have:=h.new.size;by_cases b:k<z.heap.size
 ·exact h.own k (a k b c)
 ·omega
theorem fw.owns {w0 w u:ak} {L B:a3} {dz:Nat->Tag} {e:bL} (t:fw A aw w aI L u B dz X) (f:b2 A aw w aI e) (g:ai w0 w) (d:∀ k,A k->w0.heap.size<=k):∀ k,B k\/L k->w0.heap.size<=k:=λk a=>by
 have h:=g.size;rcases a with a | a
 ·rcases (t.next.iff k).1 a with b | ⟨_,b,_⟩
  ·by_cases c:k<w.heap.size
   ·exact d k (f.e9 k (t.next.grow k c b))
   ·omega
  ·exact d k b
 ·have:=(t.loc k a).1;omega
attribute [local irreducible] eV
theorem jz.PT (h:jz w z aI A aw X F) (y:cp F) {ts:List (eJ×b_ conv)} {pl:Nat} (j:pl=ts.length) (q:bh z pa (hK ts).flatten) (s:∀ x ∈ ts,ip A z x.1 x.2/\mR x.2) (p:ts.length<=1000)
  {sl:Nat} (o:sl=sch.length) (l:bh w sa (is sch)) (n:∀ x ∈ sch,dN x) (hm:most<=1000000) {tl:List (b_ conv)} (r:ts.map Prod.snd=tl) :
  a9 15 [ptr aI,.slice pa pl pc,.slice sa sl sc,.slice none 0 0,.int .i64 most] z λv u=>∃ la lc a A' χ' e,v=.slice la a.length lc/\jz w u aI A' χ' e (eV F tl sch [] most).1/\a.map Prod.snd=(eV F tl sch [] most).2/\bh u la (hK a).flatten/\(∀ x ∈ a,ip A' u x.1 x.2)/\ao A z u/\∀ k,k<z.heap.size->A' k->A k:=by
 subst j o r;obtain rfl:=h.pure;have f:=za h.cd y q s p (pc:=pc) (DC l h.new h.own) n (sc:=sc) hm;refine aC f ?_;rintro v u C;obtain ⟨A',χ',e,t,⟨la,lc,a,rfl,b,i,B,d⟩,g,c⟩:=h.op C;have hlen:a.length=(eV X.pure (ts.map Prod.snd) sch [] most).2.length:=by rw [<-b,ft]
 exact ⟨_,rfl,la,lc,a,A',χ',e,by rw [hlen],t,b,i.rd,d,g,c⟩
theorem N8 {ts:List (eJ×b_ conv)} {l:List (b_ conv)} (h:ts.map Prod.snd=l) {k:Nat} (a:l[k]?=some t):∃ r,ts[k]?=some (r,t):=by
 rw [<-h,dR] at a;cases b:ts[k]? with
 |none=>rw [b] at a;cases a
 |some x=>rw [b] at a;obtain ⟨r,c⟩:=x;cases a;exact ⟨r,rfl⟩
def E0 (Inv:aN->a3):Prop:=∀ F m,Inv F m->cp F/\∀ x ∈ F.dL,∃ cJ bW,F.step x=(true,cJ)/\bW<m/\Inv cJ bW
def q7 (x:fo):iy:=⟨x.ez,x.a1,x.node⟩
theorem N9 (h:jz w z aI A aw X F) {Inv:aN->a3} (V_:E0 Inv) (V7:Inv F m) (hm:m<=5000) (V:bh w sa (is sch)) (W:∀ x ∈ sch,dN x) (Wh:sch.length<=1000) :
  a9 17 [ptr aI,.slice sa sch.length sc] z λv u=>v=.bool true/\∃ A' χ' p cJ bW,jz w u aI A' χ' p cJ/\Inv cJ bW/\ao A z u/\∀ k,k<z.heap.size->A' k->A k:=by
 refine bc Tryz.func17 ?_;rw [ptr,UG];refine c2 mix (λq env u=>∃ (s:Nat) (V2:ax) (A':a3) (χ':Nat->Tag) (p:bL) (cJ:aN),s+q<=5000/\env=uv ⟨aI,0,none⟩ sa sch.length sc s V2/\jz w u aI A' χ' p cJ/\Inv cJ q/\ao A z u/\∀ k,k<z.heap.size->A' k->A k) m
  ⟨0,_,A,aw,X,F,by omega,rfl,h,V7,ao.refl _ _,λ_ _ h=>h⟩ ?_
 rintro q env u ⟨s,V2,A',χ',p,cJ,Wl,rfl,O,r,U,S⟩;rw [RE];obtain ⟨a,I⟩:=V_ cJ q r;have f:=O.pure;have N:p.bP.length<=100000000:=by
  have V8:=a.le;have V9:p.bP.length=cJ.bP.length:=by rw [<-f];simp [bL.pure]
  omega
 have H:nR p.pure:=by rw [f];exact a.cf.ok
 refine aC (AZ O.cd H N) ?_;rintro v bE ⟨Wj,cc,rfl,g⟩;rw [f] at g ⊢;refine ⟨_,_,_,rfl,?_⟩;have D:=O.iE g.new;refine a8 (λt=>?_) (λau=>?_)
 ·have t:0<cJ.dL.length:=by omega
  refine aC (AZ D.cd H N) ?_;rintro v Y ⟨aX,Wk,rfl,j⟩;rw [f] at j ⊢;refine ⟨_,_,_,rfl,?_⟩;have M:=D.iE j.new;have G:ai u Y:=g.new.new j.new;have y:bh Y aX (cJ.dL.map λx=>(q7 x).cells).flatten:=j.own.rd;have key:∀ {i:Nat} {x:fo},cJ.dL[i]?=some x->a9 37 [ptr aI,x.val] Y λv bk=>v=.bool true/\∃ l J C n B,B<q/\jz w bk aI l J C n/\Inv n B/\ao A z bk/\∀ k,k<z.heap.size->l k->A k:=λ{i x} Wi=>by obtain ⟨n,B,V3,K,L⟩:=I x (b7 Wi);refine aC (yV M.cd H x) ?_;rintro v bk ⟨rfl,Z⟩;rw [f,V3] at Z ⊢;obtain ⟨l,J,C,V4,_,V5,V6⟩:=M.op Z;have Wf:=U.size;have Wg:=G.size;exact ⟨_,rfl,rfl,l,J,C,n,B,K,V4,L,(U.trans G λk c e=>e.elim).trans V5 λk c e=>S k c e,λk c e=>S k c (V6 k (by omega) e)⟩
  have Wa:cJ.dL.length<1000000000:=by have V8:=BE a.cf.ok;have V9:=a.le;omega
  refine a8 (λc=>?_) (λWb=>?_)
  ·have c:s<sch.length:=by omega
   refine Az ((V.new O.new).new G) (bD c) rfl rfl λb o V'=>⟨_,V' _ (ao.refl _ _),?_⟩
   refine aC (rM _ _ _ (W _ (jS c)) (by omega)) ?_;rintro v bk ⟨rfl,rfl⟩;refine ⟨_,rfl,a8 (λh=>by omega) (λ_=>?_)⟩
   rw [if_neg (by omega)];have Wd:=u_ sch[s] (b:=(cJ.dL.length:Int)) (by omega);have We:=vn sch[s] (b:=(cJ.dL.length:Int)) (by omega);obtain ⟨i,Wc⟩:∃ i:Nat,sch[s] % (cJ.dL.length:Int)=i:=⟨(sch[s] % (cJ.dL.length:Int)).toNat,by omega⟩;rw [Wc];have T:i<cJ.dL.length:=by omega
   have d:cJ.dL[i]?=some cJ.dL[i]:=bD T;refine er (cells:=λx=>(q7 x).cells) (λx=>iy.len (q7 x)) (by omega) y d rfl rfl λb o E _=>iy.aR (q7 cJ.dL[i]) ⟨E,?_⟩
   refine aC (key d) ?_;rintro v bk ⟨rfl,l,J,C,n,B,K,L,P,Q,R⟩;rw [bC (x:=(s:Int)+1) (by omega) (by omega)];exact ⟨_,rfl,cV rfl ⟨B,K,s+1,_,l,J,C,n,by omega,rfl,L,P,Q,R⟩⟩
  ·refine a8 (λh=>by omega) (λ_=>?_)
   have d:cJ.dL[0]?=some cJ.dL[0]:=bD t;refine er (cells:=λx=>(q7 x).cells) (λx=>iy.len (q7 x)) (by omega) y d rfl rfl λb o E _=>iy.aR (q7 cJ.dL[0]) ⟨E,?_⟩
   refine aC (key d) ?_;rintro v bk ⟨rfl,l,J,C,n,B,K,L,P,Q,R⟩;rw [bC (x:=(s:Int)+1) (by omega) (by omega)];exact ⟨_,rfl,cV rfl ⟨B,K,s+1,_,l,J,C,n,by omega,rfl,L,P,Q,R⟩⟩
 ·rw [SE];exact ⟨rfl,A',χ',p,cJ,q,D,r,U.trans g.new λk _ e=>e.elim,S⟩
end
end
section
open hh
theorem qj.PW (h:qj n y b X.pure.nodes):C4 X n 101:=by
 have get:∀ (i:Nat) (x:g'),X.nodes[i]?=some x->X.pure.nodes[i]?=some x.n:=λi x a=>by simp [bL.pure,a]
 refine ⟨by rw [<-h.len];simp [bL.pure],λi x d a c=>h.PV (get i x a) (get 0 d c),λi x a=>?_,by omega,by omega⟩;rw [(h.up i _ (get i x a)).2];omega
theorem Kw (h:b2 A aw w aI X) (Wb:1<=n/\n<=3) (V9:y<14) (ay:qj n y b X.pure.nodes) (V8:bh w a (is (bB (ej y)))) :
  a9 18 [ptr aI,.slice a (ej y).length cc] w λv u=>v=.tuple #[.bool b,.bool (!b),.bool true]/\ai w u:=by
 have get:∀ (i:Nat) (x:g'),X.nodes[i]?=some x->X.pure.nodes[i]?=some x.n:=λi x C=>by simp [bL.pure,C]
 have hlen:X.nodes.length=n:=by rw [<-ay.len];simp [bL.pure]
 obtain ⟨V4,V5⟩:=xK y V9;refine bc Tryz.func18 ?_;rw [ptr,T_];refine aC (yU h) ?_;rintro v bE ⟨rfl,P⟩;obtain rfl:w=bE:=P.symm;rw [hlen];refine ⟨_,rfl,?_⟩;refine aC (yP _ (n:=n) (by omega) (by omega)) ?_;rintro v E ⟨c6,Wd,rfl,al,g,_,rfl⟩;have L:c6.ei=n:=by rw [al.len];simp [stM]
 have M:bh E c6.ed (gj (stM n)).flatten:=al.rd;refine c3.aR c6 ⟨rfl,?_⟩;dsimp only;rw [L];refine c2 mix (λq env z=>∃ (i:Nat) (F G:Bool) (e:ax),q=(ej y).length - i/\i<=(ej y).length/\env=wQ ⟨aI,0,none⟩ a (ej y).length cc F G c6.ed n c6.eA i e/\F=(if i=0 then true else b)/\G=(if i=0 then true else !b)/\ai E z) (ej y).length
  ⟨0,true,true,_,rfl,by omega,rfl,rfl,rfl,ao.refl _ _⟩ ?_
 rintro q env z ⟨i,F,G,e,rfl,V',rfl,H,I,au⟩;rw [Rd];refine a8 (λf=>?_) (λV7=>?_)
 ·have f:i<(ej y).length:=by omega
  refine c2 mix (λq env S=>∃ (j:Nat) (t4 t5:Bool) (e:ax),q=n - j/\j<=n/\env=hY ⟨aI,0,none⟩ a (ej y).length cc t4 t5 c6.ed n c6.eA i j e/\t4=(if i=0/\j=0 then true else b)/\t5=(if i=0/\j=0 then true else !b)/\ai E S) n
   ⟨0,F,G,_,rfl,by omega,rfl,by rw [H];simp,by rw [I];simp,au⟩ ?_
  rintro q env S ⟨j,t4,t5,e,rfl,Wa,rfl,T,U,p⟩;rw [Re];refine a8 (λs=>?_) (λV=>?_)
  ·have s:j<n:=by omega
   obtain ⟨x,C⟩:∃ x,X.nodes[j]?=some x:=⟨_,bD (by omega)⟩;have Q:=ay.up j _ (get j x C);have r:(ej y)[i] ∈ ej y:=jS f;have V6:(bB (ej y))[i]?=some ((ej y)[i]:Int):=by simp [bB,f]
   obtain ⟨dd,l2⟩:=xU r;have B:=ay.d_ j _ (get j x C) _ dd (by omega);rw [Bf.2 r,Bool.and_true] at B;generalize (ej y)[i]=l at *;have t:ai w S:=g.new p;refine Az (V8.new t) V6 rfl (by simp [bB]) λdk o V3=>⟨_,V3 _ (ao.refl _ _),?_⟩
   refine aC (rF (h.new t) C (l:=l) (by omega) (by omega) Q.1) ?_;rintro v bk ⟨rfl,N⟩;rw [B];refine aK.aR (uI b l) ⟨true,rfl,?_⟩;refine ea (vs:=(uI b l).cells) rfl (aK.single _) λV_ W V2 c k=>?_
   have O:ai E W:=(p.new N).new k;rw [bC (x:=(j:Int)+1) (by omega) (by omega)];have d:∀ (e:ax),∃ m,m<n - j/\∃ (D:Nat) (t4 t5:Bool) (R:ax),m=n - D/\D<=n/\hY ⟨aI,0,none⟩ a (ej y).length cc b (!b) c6.ed n c6.eA i (j+1:Nat) e=hY ⟨aI,0,none⟩ a (ej y).length cc t4 t5 c6.ed n c6.eA i D R/\t4=(if i=0/\D=0 then true else b)/\t5=(if i=0/\D=0 then true else !b)/\ai E W:=
    λe=>⟨n - (j+1),by omega,j+1,b,!b,e,rfl,by omega,rfl,by rw [if_neg (by omega)],by rw [if_neg (by omega)],O⟩
   cases b with
   |true=>
    have Y:t4=true:=by rw [T];split<;>rfl
    subst Y;refine ek rfl (ek rfl (nC (by omega) (by omega) ⟨_,c.cell (i:=2) rfl,ek rfl ⟨_,c.cell (i:=1) rfl,?_⟩⟩));cases t5 with
    |true=>exact ek rfl (ek rfl (nC (by omega) (by omega) ⟨_,c.cell (i:=2) rfl,cV rfl (d _)⟩))
    |false=>exact cV rfl (d _)
   |false=>
    have Z:t5=true:=by rw [U];split<;>rfl
    subst Z;cases t4 with
    |true=>exact ek rfl (ek rfl (nC (by omega) (by omega) ⟨_,c.cell (i:=2) rfl,cV rfl (ek rfl (ek rfl (nC (by omega) (by omega) ⟨_,c.cell (i:=2) rfl,ek rfl ⟨_,c.cell (i:=1) rfl,d _⟩⟩)))⟩))
    |false=>exact cV rfl (ek rfl (ek rfl (nC (by omega) (by omega) ⟨_,c.cell (i:=2) rfl,ek rfl ⟨_,c.cell (i:=1) rfl,d _⟩⟩)))
  ·have K:j=n:=by omega
   subst K;rw [RR];rw [bC (x:=(i:Int)+1) (by omega) (by omega)];exact ⟨(ej y).length - (i+1),by omega,i+1,t4,t5,_,rfl,by omega,rfl,by rw [T,if_neg (by omega),if_neg (by omega)],by rw [U,if_neg (by omega),if_neg (by omega)],p⟩
 ·rw [RQ];have J:i≠0:=by omega
  rw [if_neg J] at H I;subst H I;refine aC (N6 (h.new (g.new au)) (n:=n) (lines:=101) ay.PW (M.new au) (by omega)) ?_;rintro v Wc ⟨rfl,k⟩;exact ⟨_,rfl,rfl,(g.new au).new k⟩
end
section
open hh
theorem vC {α β:Type} {f:α->β} {l:List α} {y:β} (h:l.map f=[y]):∃ x,l=[x]/\f x=y:=by
 cases l with
 |nil=>cases h
 |cons x l=>
  cases l with
  |nil=>exact ⟨x,rfl,by simpa using h⟩
  |cons y l=>simp at h
section
attribute [local irreducible] eV
theorem Fn {h z:ak} {b1:Nat} (J:b2 A aw h aI X) (S:ai h z) (N:h.heap.size<=b1/\b1<z.heap.size) (P:cp X.pure) {r:eJ} (V:ip (λk=>A k\/k=b1) z r t) (E:mR t)
  (y:bh z pa r.cells) (D:o5 (λk=>A k\/k=b1) z sa (is sch)) (F:∀ x ∈ sch,dN x) (hm:most<=1000000) {l:b_ conv} (ar:eV X.pure [t] sch [] most=(cJ,[l])) :
  a9 15 [ptr aI,.slice pa 1 pc,.slice sa sch.length sc,.slice none 0 0,.int .i64 most] z λv u=>∃ la lc c B dz j,v=.slice la 1 lc/\fw A aw h aI (λk=>k=b1) u B dz j/\j.pure=cJ/\ip (λk=>B k\/k=b1) u c l/\(∀ K:aS->Prop,(∀ b o,b6 u ⟨b,o,none⟩ 0 c.cells->K ⟨b,o,none⟩)->bm la 1 0 36 K)/\
   u.heap[b1]?=z.heap[b1]?:=by
 have G:fw A aw h aI (λk=>k=b1) z A aw X:=fw.start J S λk Q=>by subst Q;exact N
 have C:bh z pa (hK [(r,t)]).flatten:=by simpa [hK] using y
 have d:=za G.cd P (ts:=[(r,t)]) (pc:=pc) C (λx g=>by simp at g;rw [g];exact ⟨V,E⟩) (by simp) (sch:=sch) (sa:=sa) (sc:=sc) D F (most:=most) hm;have H:eV X.pure ([(r,t)].map Prod.snd) sch [] most=(cJ,[l]):=ar;rw [H] at d;refine aC d ?_;rintro v u U;obtain ⟨B',Y,j,I,s,p,R,M,q⟩:=G.op U;obtain ⟨la,lc,W,rfl,e,w,T,f⟩:=p;obtain ⟨⟨c,t2⟩,rfl,n⟩:=vC e;have n:t2=l:=n;subst n;refine ⟨_,rfl,la,lc,c,B',Y,j,rfl,I,s,f (c,t2) (by simp),λK L=>?_,q b1 rfl⟩;have a:bh u la (([(c,t2)]:List (eJ×b_ conv)).map λx=>x.1.cells).flatten:=w.rd
 exact er (cells:=λx:eJ×b_ conv=>x.1.cells) (λx=>cj.len x.1) (by omega) a (i:=0) rfl rfl rfl λb o O _=>L b o O
end
def lZ (n y:Nat):b_ conv:=zL 0 (uW n y)
theorem LO (f:1<=n/\n<=3) (g:y<14):kl (gT n y) [] [0] (aN.fresh n 4 101) [lZ n y] (aN.fresh n 4 101) lz ⟨8,ha⟩ λ_=>ns 12:=by
 refine ⟨LL f g (by omega),.inl rfl,rfl,λk c t a b=>?_⟩;have d:k=0:=by have:=cb a;simp at this;exact this
 subst d;simp at a b;subst a b;exact .inl ⟨rfl,rfl,rfl,rfl,rfl,λe=>by have:8<=4:=e;omega,λe=>by have:8=6:=e;omega,λe=>by have:8=7:=e;omega,λ_=>⟨rfl,rfl⟩,by show 8<=8/\8≠5;omega⟩
theorem LP:g5 [] (aN.fresh n 4 101) ⟨8,ha⟩ (λ_=>ns 12)=700:=by
 have b:(aN.fresh n 4 101).aV[0]?=some (hH n 0):=rfl;have c:hr (hH n 0):=λk l a=>by have a:=b7 a;unfold hH kq at a;simp only at a;obtain ⟨z,au,rfl⟩:=cT.1 a;rfl
 have:dU (aN.fresh n 4 101) 0=0:=by unfold dU;rw [b];exact uZ c
 unfold g5;rw [this];rfl
structure tD (n y:Nat) (sure:Bool) (F G:aN) (A:bt) (g:f_) (gr:Nat->c5):Prop where
 ju:gD (gT n y) [] G A g gr
 oK:gb F G
 gn:cp F
 wt:g5 [] G g gr<=700
 sure:sure=true->hX (gT n y) A
theorem Nw {E:Env} {A:bt} {t:e4} (j:1<=E.n) (h:gD E [] G A g gr) (b:og E A g t) (d:3<=t.a4.length):hX E A:=by
 have a:=h.qY;obtain ⟨l,k⟩:=b.aB;unfold e3 at a;by_cases f:g.aB<=4
 ·obtain ⟨_,_,_,o⟩:=b.run f;obtain e | e:g.aB=3\/g.aB=4:=by omega
  ·rw [e] at a;exact a.1
  ·rw [e] at a;exact a.1
 ·obtain e | e | e:g.aB=6\/g.aB=7\/g.aB=8:=by omega
  ·rw [e] at a;exact a.1
  ·obtain ⟨_,_,_,_,_,m,_,hm⟩:=b.ref e;rw [h.op (λc i=>by cases i) m] at hm;cases hm
  ·rw [(b.new e).2] at d;simp at d
theorem Ps (p:1<=n/\n<=3) (r:y<14) (sch:bd) (most:Nat):∃ h f,eV (aN.fresh n 4 101) [lZ n y] sch [] most=(h,[f])/\f.bad=false/\cp h/\∃ i,h.die 0=(true,i)/\∃ G A g gr,tD n y (decide ((f.a4.length:Int)>=3)) i G A g gr:=by
 have ay:=tQ p r;obtain ⟨G,A,g,gr,ar,_,hw,_⟩:=Dg ay (rs:=[]) (λc j=>by cases j) (cs:=[0]) (by simp) (LO p r) sch most;rw [LP] at hw;have d:cp (eV (aN.fresh n 4 101) [lZ n y] sch [] most).1:=cp.eV (cp.fresh (by omega) (by omega) (by omega)) _ _ _ _;generalize u:eV (aN.fresh n 4 101) [lZ n y] sch [] most=R at *;obtain ⟨h,ts⟩:=R;have k:=ar.len;simp only at ar k d;obtain ⟨f,rfl⟩:∃ f,ts=[f]:=by
  cases ts with
  |nil=>simp at k
  |cons a l=>
   cases l with
   |nil=>exact ⟨a,rfl⟩
   |cons b l=>simp at k
 rcases ar.fS 0 0 f rfl rfl with ⟨_,e,o⟩ | ⟨j,_⟩
 ·subst e;obtain ⟨i,s,t⟩:=ar.ju.die;refine ⟨h,f,rfl,o.bad,d,i,s,h,A,g,gr,ar.ju,t,?_,hw,λq=>?_⟩
  ·have:=d.die ((0:Nat):Int);rw [s] at this;exact this
  ·have q:=of_decide_eq_true q;exact Nw ay.e.n.1 ar.ju o (by omega)
 ·cases j
theorem CA (i:1<=n/\n<=3) (o:y<14) {x:aZ} (j:x=⟨fmt 101 n,false⟩):pk x (ej y)=(ej y).map jC:=by
 obtain ⟨h,_⟩:=x8 i;simp only [vp,e1,gU,fJ,beq_iff_eq] at h;obtain ⟨_,_,_,_,c⟩:=h;unfold pk;refine ti λl f=>?_
 obtain ⟨dd,l2⟩:=xU f;have g:∀ k,k<8->x.get (l * 8+k)=tP 0 k:=λk d=>by have:=c (l - 96) (by omega) k d;rw [show l - 96+96=l by omega] at this;rw [j];exact this
 have a:=g 0 (by omega);rw [l0] at a;unfold ua aZ.d_ jC;simp only;rw [a,g 1 (by omega),g 2 (by omega),g 3 (by omega),g 4 (by omega),g 5 (by omega),g 6 (by omega),g 7 (by omega)];have e:tH .u64 256 255=256:=by decide
 have b:IntKind.u64.wrap (0+1)=1:=by decide
 show (⟨(l:Int),tH .u64 256 255,IntKind.u64.wrap (0+1),0,0,0,0,0,0⟩:aK)=_;rw [e,b]
theorem Ez:∀ p ∈ (ej y).map jC,E1 p:=λp b=>by obtain ⟨l,_,rfl⟩:=cT.1 b;refine ⟨⟨by show (0:Int)<=256;omega,by show (256:Int)<_;omega⟩,λx a=>?_⟩;simp [hA,jC] at a;rcases a with rfl | rfl<;>exact ⟨by omega,by omega⟩
theorem Hv (n y:Nat):mR (lZ n y):=λ_=>by show ([]:List (List aO)).length<=200;simp
section
attribute [local irreducible] eV
theorem OZ (WJ:1<=n/\n<=3) {Wp Wd:Int} (WT:dN Wp) (Wx:dN Wd) (WO:bh w sa (is sch)) (WP:∀ x ∈ sch,dN x) :
  a9 13 [.int .i64 n,.int .i64 Wp,.int .i64 Wd,.slice sa sch.length sc] w λv u=>∃ aI sure A aw X F G B g gr,v=.tuple #[ptr aI,.bool sure,.bool true]/\jz w u aI A aw X F/\tD n (Wp % 14).toNat sure F G B g gr:=by
 obtain ⟨y,WV,s⟩:∃ y:Nat,(Wp % 14).toNat=y/\y<14:=⟨(Wp % 14).toNat,rfl,by omega⟩;obtain ⟨Wv,WW,WH,We,Wh,WY,Wg,G,B,g,gr,Wf⟩:=Ps WJ s sch (Wd % 70).toNat
 rw [WV];refine bc Tryz.func13 ?_;rw [UX];refine aC (DL (n:=n) (c:=4) (lines:=101) (by omega) (by omega) (by omega)) ?_;rintro v bE ⟨aI,A,aw,X,rfl,WA,Wj,Wy,Wr⟩;refine ⟨_,_,rfl,cV rfl ?_⟩;refine aC (Di WT) ?_;rw [WV];rintro v Xi ⟨Xf,cc,rfl,WN,N⟩;refine ⟨_,_,_,rfl,?_⟩;have P:∀ (i:Nat) (x:g'),X.nodes[i]?=some x->x.n=⟨fmt 101 n,false⟩:=λi x Wt=>by
  have:X.pure.nodes[i]?=some x.n:=by simp [bL.pure,Wt]
  rw [Wr] at this;exact (Bl.1 (b7 this)).2
 have W5:X.nodes.length=n:=by
  have:X.pure.nodes.length=n:=by rw [Wr];simp [aN.fresh]
  rw [<-this];simp [bL.pure]
 obtain ⟨x,Wt⟩:∃ x,X.nodes[0]?=some x:=⟨_,bD (by omega)⟩;have V9:=P 0 x Wt;have hlen:x.n.words.length=808:=by rw [V9];obtain ⟨h,_⟩:=x8 WJ;simp only [vp,e1,beq_iff_eq] at h;exact h.1
 refine aC (Cz (WA.new N) (n:=n) (by omega) Wt (by rw [V9]) (L:=ej y) (λl W2=>by have:=xU W2;omega) (by have:=(xK y s).2;omega) WN 0 1) ?_;rintro v bk ⟨c6,df,eN,rfl,V6,al,r,WR⟩;rw [CA WJ s V9] at r;refine cj.aR (jm 0 1 101 c6 df (ej y).length eN) ⟨true,rfl,?_⟩;have W7:=N.size;have W8:=V6.size;refine ea (vs:=(jm 0 1 101 c6 df (ej y).length eN).cells) rfl (cj.single _) λb1 Xb W0 V_ WK=>?_
 refine cV rfl ?_;rintro Wo Wl;have O:ai Xb Wo:=by rw [Wl];exact cE _
 clear Wl;have W3:=V_.lt;refine ⟨λq=>ai Wo q,ao.refl _ _,cj.aR (jm 0 1 101 c6 df (ej y).length eN) ⟨λq W6=>bJ (ai.aj (O.new W6) V_) rfl,?_⟩⟩;have Wi:ai bk Wo:=WK.new O;have p:ai w bk:=Wj.new (N.new V6);have Z:b2 A aw bk aI X:=WA.new (N.new V6);have Y:∀ k,A k->k<bE.heap.size:=λk S=>WA.low k S
 have tail:∀ {z:ak} {pa:an},ai Wo z->bh z pa (jm 0 1 101 c6 df (ej y).length eN).cells->a9 15 [ptr aI,.slice pa 1 1,.slice sa sch.length sc,.slice none 0 0,.int .i64 (Wd % 70)] z λv Wa=>∃ la lc,v=.slice la 1 lc/\∀ {Ww:aE},(∀ d q,av q b1 (cj.cells d) 45->d.o8=WW.a4.length->d.lB=false->(∃ Wq Wu Q,fw A aw bk aI (λk=>k=b1) q Wq Wu Q/\Q.pure=Wv)->Ww q)->bm la 1 0 36 λbx=>cj.ex λr1=>b6 Wa bx 0 r1.cells/\ec Wa ⟨b1,0,none⟩ 0 r1.cells/\∀ q,q=cr Wa ⟨b1,0,none⟩ 0 r1.cells->Ww q:=λ{z pa} V7 WM=>by
  have j:ai bk z:=Wi.new V7;have Wm:(ej y).length=((ej y).map jC).length:=by simp
  have W_:=V7.size;have W9:=O.size;have WQ:ip (λk=>A k\/k=b1) z (jm 0 1 101 c6 df (ej y).length eN) (lZ n y):=by
   refine Dj ?_ (r.rd.new j) Wm (by rw [<-Wm];have:=(xK y s).2;omega) ?_ Ez
   ·exact (al.mono λk W4 S=>S.resolve_right (by omega)).new j
   ·exact hn r.rd λk S Ws=>by
     have Xg:=WR _ S;have Xh:=r.lt S;rcases Ws with Ws | Ws
     ·have:=Y _ Ws;omega
     ·omega
  have V5:((Wd % 70).toNat:Int)=Wd % 70:=by omega
  have E:=Fn Z j (b1:=b1) ⟨by omega,by omega⟩ (by rw [Wr];exact cp.fresh (by omega) (by omega) (by omega)) WQ (Hv n y) (pc:=1) WM (sch:=sch) (sc:=sc) (sa:=sa) (DC WO (p.new j) λk S=>S.elim (Wy k) λe=>(by have:=p.size;omega)) WP (most:=(Wd % 70).toNat) (by omega) (by rw [Wr];exact WH);rw [V5] at E;refine aC E ?_;rintro v Wa ⟨la,lc,d,B',Xj,Xd,rfl,WC,WE,Wk,I,WG⟩;refine ⟨_,rfl,la,lc,rfl,λ{Ww} WZ=>I _ λb o W1=>cj.aR d ⟨W1,?_⟩⟩;have WS:av Wa b1 (jm 0 1 101 c6 df (ej y).length eN).cells 45:=by exact WG.trans (ai.aj (O.new V7) V_)
  refine dQ (vs:=d.cells) WS rfl (cj.single _) λq f WI=>?_
  have WD:=WC.local WI λk e=>e
  exact WZ d q f Wk.dM (Wk.bad.trans We) ⟨_,_,_,WD,WE⟩
 have fin:∀ d q,av q b1 (cj.cells d) 45->d.o8=WW.a4.length->d.lB=false->(∃ Wq Wu Q,fw A aw bk aI (λk=>k=b1) q Wq Wu Q/\Q.pure=Wv)->∀ Wb,Wb=q.drew->∃ M:aE,M Wb/\∃ (ql:an) (a t:Nat),(∀ u,M u->u.cell? ⟨b1,23,none⟩=some (.slice ql a t))/\Calls prog 22 #[ptr aI,.int .i64 0] Wb λe Wc=>∃ W:Bool,e=.returned (.bool W)/\M Wc/\(bif W then (∃ lB:Bool,(∀ u,M u->u.cell? ⟨b1,25,none⟩=some (.bool lB))/\∃ C sure A aw X F G B g gr,(.tuple #[ptr aI,.bool (decide ((a:Int)>=3)),.bool (!lB)]:a2)=.tuple #[ptr C,.bool sure,.bool true]/\jz w Wc C A aw X F/\tD n y sure F G B g gr) else (∃ C sure A aw X F G B g gr,(.tuple #[ptr aI,.bool (decide ((a:Int)>=3)),.bool false]:a2)=.tuple #[ptr C,.bool sure,.bool true]/\jz w Wc C A aw X F/\tD n y sure F G B g gr)):=by
  rintro d q f H D ⟨Wq,Wu,Q,WC,V3⟩ Wn U;have T:ai q Wn:=by rw [U];exact cE _
  clear U;have V:=ai.aj T f;have R:=WC.new T;refine ⟨λv=>v.heap[b1]?=Wn.heap[b1]?,rfl,_,_,_,λu hu=>av.cell (i:=23) (hu.trans V) rfl,?_⟩;have WL:Q.bP.length<=100000000:=by
   have WT:=Wh.le;have Wx:Q.bP.length=Wv.bP.length:=by rw [<-V3];simp [bL.pure]
   omega
  refine aC (EH R.cd (by rw [V3];exact Wh.cf.ok) WL 0) ?_;rintro v Xa ⟨rfl,WU⟩;rw [V3,Wg] at WU ⊢;obtain ⟨Xc,Xk,Xe,V2,WF,_,_,_,WB⟩:=R.op WU;refine ⟨_,rfl,WB b1 rfl,ek rfl ⟨_,λu hu=>av.cell (i:=25) (hu.trans V) rfl,aI,_,_,_,_,WY,G,B,g,gr,?_,⟨V2.cd,WF,V2.iD Z p Wy,V2.owns Z p Wy⟩,Wf⟩⟩;rw [H,D];rfl
 refine ⟨?_,?_⟩
 ·rintro aA WX V4 K;obtain ⟨V',J⟩:=bl V4 K;clear K;refine ⟨J,?_⟩;refine aC (rM _ _ _ Wx (by omega)) ?_;rintro v u8 ⟨rfl,V8⟩;obtain rfl:WX=u8:=V8.symm;rw [if_neg (by omega)];refine ⟨_,rfl,J,?_⟩;refine aC (tail J (fm V' (by simp))) ?_;rintro v Wa ⟨la,lc,rfl,I⟩;refine ⟨_,_,_,rfl,I λd q f H D Wz=>?_⟩;exact fin d q f H D Wz
 ·refine aC (rM _ _ _ Wx (by omega)) ?_;rintro v u8 ⟨rfl,V8⟩;obtain rfl:Wo=u8:=V8.symm;rw [if_neg (by omega)];refine ⟨_,rfl,ao.refl _ _,?_⟩;rintro aA WX V4 K;obtain ⟨V',J⟩:=bl V4 K;clear K;refine aC (tail J (fm V' (by simp))) ?_;rintro v Wa ⟨la,lc,rfl,I⟩;refine ⟨_,_,_,rfl,I λd q f H D Wz=>?_⟩;exact fin d q f H D Wz
end
end
section
open hh
def r3 (n y:Nat) (rs:cP) (ts:List e4) (sure:Bool) (F:aN) (m:Nat):Prop:=
 ∃ G A g gr,kl (gT n y) rs rs F ts G A g gr/\g5 rs G g gr<=m/\cp F/\(sure=true->hX (gT n y) A)
theorem Jl (j:1<=n/\n<=3) (o:y<14) (b:∀ c ∈ rs,1<=c/\c<4) {sure:Bool}:E0 (r3 n y rs ts sure):=λF m ⟨G,A,g,gr,ar,hw,f,k⟩=>by refine ⟨f,λx l=>?_⟩;obtain ⟨cJ,d,A',bV,a,e,p,r,q⟩:=N2 (tQ j o) (λc i=>by have:=b c i;omega) ar l;refine ⟨cJ,g5 rs d bV a,e,by omega,d,A',bV,a,p,cQ _,?_,λh=>q.am (k h)⟩;have:=f.step x;rw [e] at this;exact this
def iK (n c:Nat):e4:=EZ c ⟨(c:Int),1,101,kc n,0,2,0⟩
theorem Dk {f:Nat->Nat} {k:Nat}:∀ {l:cP},(∀ c ∈ l,f c=k)->(l.map f).sum=l.length * k
 | [],_=>by simp
 |a::l,h=>by rw [f9,jR,h a e2,Dk λc b=>h c (fu _ b),g7,hT];omega
theorem Jm {sure:Bool} {A:bt} (h:tD n y sure F G A g gr) (b:∀ c ∈ rs,1<=c/\c<4):r3 n y rs (rs.map (iK n)) sure F (700+rs.length * 1680):=by
 have d:=h.ju.join b;refine ⟨G,A,g,_,⟨d,h.oK,by simp,λk c t a f=>?_⟩,?_,h.gn,h.sure⟩
 ·rw [dR,a] at f;cases f;exact .inr ⟨b7 a,rfl,rfl,rfl,λe=>by have:12<=9:=e;omega,λe=>by have:12=10:=e;omega,λe=>by have:12=11:=e;omega,λ_=>⟨rfl,rfl⟩⟩
 ·have o:=h.wt;have i:(rs.map λc=>dU G c+gQ ((λ_=>ns 12) c).aB).sum=rs.length * 1680:=Dk λc a=>by
   obtain ⟨C,j,_,_,q⟩:=d.q3 c a;have:dU G c=0:=by unfold dU;rw [j];exact uZ (q (by show 10<=12;omega)).2
   show dU G c+1680=1680;omega
  have l:g5 [] G g gr=dU G 0+oJ g.aB:=by unfold g5;simp
  unfold g5;rw [i];omega
theorem Jn (j:1<=n/\n<=3) (l:y<14) (d:∀ c ∈ rs,1<=c/\c<4) (b:rs.Nodup) {sure:Bool} (h:r3 n y rs ts sure F m) (sch:bd) (hm:m<most) :
  r3 n y rs (eV F ts sch [] most).2 sure (eV F ts sch [] most).1 m/\p_ (eV F ts sch [] most).2:=by
 obtain ⟨G,A,g,gr,ar,hw,i,k⟩:=h;obtain ⟨e,A',bV,a,o,p,r,q⟩:=Dg (tQ j l) (λc f=>by have:=d c f;omega) b ar sch most;exact ⟨⟨e,A',bV,a,o,by omega,cp.eV i _ _ _ _,λh=>p.am (k h)⟩,q (by omega)⟩
def r4 (n y:Nat) (sure:Bool) (F:aN) (t:e4):Prop:=
 ∃ (b:Bool) (v s q:Int),qj n y b F.nodes/\(sure=true->b=true)/\t.out=.inr ⟨0,v,s,q,0⟩/\(v=2↔b=true)/\(b=true->q=2)/\t.a4.length<=9
theorem Dl (J:1<=n/\n<=3) (L:y<14) (C:∀ c ∈ rs,1<=c/\c<4) {sure:Bool} (h:r3 n y rs ts sure F m) (V:p_ ts) :
  (∀ t ∈ ts,t.bad=false/\(r4 n y sure F t\/∃ w,t.out=.inr ⟨3,0,0,0,w⟩))/\(rs≠[]->∃ t ∈ ts,r4 n y sure F t)/\(rs.length=1->∀ t ∈ ts,r4 n y sure F t):=by
 obtain ⟨G,A,g,gr,ar,_,Z,W⟩:=h;have ay:=tQ J L;have x:∀ {c:Nat},c ∈ rs->∃ t,t ∈ ts/\l9 (gT n y) c (gr c) t:=λ{c} d=>by
  obtain ⟨k,B⟩:=eh.1 d;obtain ⟨t,j⟩:∃ t,ts[k]?=some t:=⟨_,bD (by rw [ar.len];exact cb B)⟩;rcases ar.fS k c t B j with ⟨e,_⟩ | ⟨_,i⟩
  ·have:=C c d;omega
  ·exact ⟨t,b7 j,i⟩
 have D:∀ {t:e4},t ∈ ts->∃ c,c ∈ rs/\l9 (gT n y) c (gr c) t:=λ{t} j=>by
  obtain ⟨k,B⟩:=eh.1 j;obtain ⟨c,d⟩:∃ c,rs[k]?=some c:=⟨_,bD (by rw [<-ar.len];exact cb B)⟩;rcases ar.fS k c t d B with ⟨e,_⟩ | h
  ·have:=C c (b7 d);omega
  ·exact ⟨c,h⟩
 have q:∀ {c:Nat} {t:e4},c ∈ rs->t ∈ ts->l9 (gT n y) c (gr c) t->(gr c).aB=10\/(gr c).aB=11:=λ{c t} d j i=>by
  have T:=(ar.ju.my c d).2.2.2;have p:=V t j;by_cases U:(gr c).aB<=9
  ·rw [(i.run U).1] at p;cases p
  ·by_cases I:(gr c).aB=12
   ·rw [(i.new I).1] at p;cases p
   ·omega
 have f:∀ {c:Nat} {t:e4},c ∈ rs->l9 (gT n y) c (gr c) t->(gr c).aB=10->r4 n y sure F t:=λ{c t} d i e=>by
  obtain ⟨ok,_⟩:=ar.ju.my c d;unfold cC at ok;rw [e] at ok;obtain ⟨Q,X⟩:=ok;obtain ⟨_,f2,f3⟩:=i.fin e;have o:=ar.oK.nodes;rcases X with ⟨H,M,Y⟩ | ⟨H,M⟩
  ·exact ⟨true,_,_,_,by rw [o];exact Ev J L ar.ju.rep ar.ju.law Q (b:=true) H,λ_=>rfl,f2,⟨λ_=>rfl,λ_=>M⟩,λ_=>Y,f3⟩
  ·refine ⟨false,_,_,_,by rw [o];exact Ev J L ar.ju.rep ar.ju.law Q (b:=false) H,λh=>?_,f2,⟨λe=>absurd e M,(λe=>nomatch e)⟩,(λe=>nomatch e),f3⟩;have E:=W h 0 (by have:=ay.e.n;omega);rw [H.2.1 0 (by have:=ay.e.n;omega)] at E;cases E
 have s:∀ {c:Nat},c ∈ rs->(gr c).aB=11->∃ c' ∈ rs,c'≠c/\(gr c').aB=10:=λ{c} d e=>by
  obtain ⟨ok,_⟩:=ar.ju.my c d;unfold cC at ok;rw [e] at ok;obtain ⟨c',r,N,O⟩:=ok;obtain ⟨R,z,u⟩:=x r;refine ⟨c',r,N,?_⟩;rcases q r z u with P | P
  ·exact P
  ·rcases O with ⟨S,_⟩ | ⟨_,S⟩<;>omega
 refine ⟨λt j=>?_,λK=>?_,λE t j=>?_⟩
 ·obtain ⟨c,d,i⟩:=D j;refine ⟨i.bad,?_⟩;rcases q d j i with e | e
  ·exact .inl (f d i e)
  ·exact .inr (i.busy e).2
 ·obtain ⟨c,l,e⟩:=rm K;have d:c ∈ rs:=by rw [e];exact e2
  obtain ⟨t,j,i⟩:=x d;rcases q d j i with e | e
  ·exact ⟨t,j,f d i e⟩
  ·obtain ⟨c',r,_,O⟩:=s d e;obtain ⟨R,z,u⟩:=x r;exact ⟨R,z,f r u O⟩
 ·obtain ⟨c,d,i⟩:=D j;rcases q d j i with e | e
  ·exact f d i e
  ·obtain ⟨c',r,N,_⟩:=s d e;obtain ⟨a,rfl⟩:=vh.1 E;simp at r d;exact absurd (r.trans d.symm) N
end
end Go.Proofs.YtmkljjbioomepaaGreat
