import Derived.Test.YtmkljjbioomepaaGreatb21
import Derived.Test.YtmkljjbioomepaaGreatb22
set_option linter.all false
namespace Go.Proofs.YtmkljjbioomepaaGreat
open Go.Proofs.Tryz Go.bu
section
def nT (j:cU):List aW:=pv j (e' j.a1+8) (fi j.seq j.writes)
def nU (j:cU):List aW:=pv j (e' j.a1) [fQ j.seq]
structure Fit (vs:List aW) (ds:List aO):Prop where
 len:ds.length=vs.length
 each:∀ (q:Nat) (v:aW) (d:aO),vs[q]?=some v->ds[q]?=some d->d.code=0/\(d.words.length:Int)=v.v.iq
theorem Bo:∀ {ds:List aO},(∀ d ∈ ds,d.code=0)->ho ds=0
 | [],_=>rfl
 |d::ds,h=>by unfold ho;rw [if_pos (h d e2)];exact Bo λx a=>h x (fu _ a)
theorem Fit.PS {vs:List aW} {ds:List aO} (h:Fit vs ds):ho ds=0:=Bo λd ar=>by
 obtain ⟨q,c⟩:=eh.1 ar;have b:=cb c;have a:q<vs.length:=by rw [<-h.len];exact b
 exact (h.each q vs[q] d (bD a) c).1
theorem Fit.kr {vs:List aW} {ds:List aO} (h:Fit vs ds):Go.Proofs.YtmkljjbioomepaaGreat.kr vs ds=true:=by unfold Go.Proofs.YtmkljjbioomepaaGreat.kr;rw [e1,decide_eq_true_eq,gU];refine ⟨h.len.symm,λp e=>?_⟩;obtain ⟨q,f⟩:=eh.1 e;obtain ⟨c,d⟩:=Bk.1 f;obtain ⟨a,b⟩:=h.each q p.1 p.2 c d;unfold sj;rw [if_pos a];exact decide_eq_true b
theorem AP {vs:List aW} (h:vs≠[]) (a:Int):cg [] vs a=⟨false,[],(0,0),[],some vs,false⟩:=by
 have c:vs.length≠0:=λe=>h (nZ.1 e)
 have b:batch [] vs=⟨[],false,[],some vs,false⟩:=by unfold batch;rw [if_neg c]
 unfold cg;rw [b];rfl
theorem A6 {vs:List aW} {d:List aO} (G:List (List aO)) (al:vs≠[]) (h:Fit vs d) (a:Int):cg (d::G) vs a=⟨true,d,(0,0),G,none,false⟩:=by
 have c:vs.length≠0:=λe=>al (nZ.1 e)
 have b:batch (d::G) vs=⟨d,true,G,none,false⟩:=by unfold batch;rw [if_neg c];simp only [h.kr,if_true]
 unfold cg;rw [b];simp only [h.PS];rfl
theorem BY (G:List (List aO)) (a:Int):cg G [] a=⟨true,[],(0,0),G,none,false⟩:=by have b:batch G []=⟨[],true,G,none,false⟩:=if_pos rfl;unfold cg;rw [b];rfl
set_option linter.unusedSectionVars false
section
variable {j:cU} (al:j.valid=0) (eW:j.writes≠[])
include al eW
theorem J2 (G:List (List aO)):rP j G=cg G (nT j) 1:=by unfold rP nv nT;rw [if_neg eW]
theorem J3 (G:List (List aO)):tL j G=cg G (nU j) 2:=by unfold tL nv nU;rw [if_neg eW]
theorem K7 (G:List (List aO)):nq j G=cg G (h1 j) 3:=by unfold nq;rw [if_neg eW]
theorem Ng:dC j≠[]:=by
 unfold dC;cases h:j.writes with
 |nil=>exact absurd h eW
 |cons p l=>simp
theorem Nh {D:List aO} (a:Fit (dC j) D) (b:il (ik j) D=false) (G:List (List aO)):ka j (D::G)=⟨true,[],(0,0),G,none,false⟩:=by unfold ka;rw [A6 G (Ng al eW) a];simp only [b,if_true];rfl
def VS (j:cU) (D:List aO):List aW:=hs (dC j) (ik j) D
end
end
section
def kc (n:Nat):jf:=⟨0,stM n⟩
theorem fw.iD {A:a3} {aw:Nat->Tag} {w0 w u:ak} {aI:Nat} {L B:a3} {dz:Nat->Tag} {X a:bL} (t:fw A aw w aI L u B dz X) (c:b2 A aw w aI a) (e:ai w0 w) (b:∀ k,A k->w0.heap.size<=k):ai w0 u:=
 e.trans t.next.az λk f d=>by have:=b k (c.e9 k d);omega
theorem DC {A:a3} {w u:ak} {a:an} {xs:ax} (b:bh w a xs) (e:ai w u) (d:∀ k,A k->w.heap.size<=k):o5 A u a xs:=by
 refine ⟨b.new e,?_⟩;by_cases c:xs=[]
 ·exact .inl c
 ·refine .inr ?_;cases a with
  |none=>trivial
  |some a=>intro h;have:=d _ h;have:=b.lt c;omega
namespace e7
def conv:Conv:=⟨cU,Int×Int,d9⟩
structure qm (A:a3) (w:ak) (r:dv) (j:cU):Prop where
 at_:pY w r j
 view:gd A w r.View j.v
 VY:(Ee j.reads).flatten=[]\/gl A r.Reads
 V1:(h4 j.writes).flatten=[]\/gl A r.eu
 lK:oZ j
theorem gd.az {A A':a3} {w w':ak} {r:c3} {v:jf} (h:gd A w r v) (b:ao A w w') (a:∀ k,k<w.heap.size->A' k->A k):gd A' w' r v:=
 ⟨h.num,h.len,h.cap,h.rd.az b h.off,gl.az h.rd h.off a,h.small⟩
theorem qm.az {A A':a3} {w w':ak} {r:dv} {j:cU} (h:qm A w r j) (d:ao A w w') (c:∀ k,k<w.heap.size->A' k->A k):qm A' w' r j:=by obtain ⟨a,al,e,hw,ar⟩:=h;have b:=gd.az al d c;exact ⟨⟨a.a1,a.seq,a.lines,⟨A',b⟩,a.rd.az d e,a.len,a.eD,⟨a.bQ.rd.az d hw,a.bQ.len,a.bQ.eD,a.bQ.u64⟩⟩,b,gl.az a.rd e c,gl.az a.bQ.rd hw c,ar⟩
end e7
end
section
open e7
def bg (m:Nat):aY:=⟨(m:Int),1,true⟩
def cx (m:Nat) (a:Int) (ws:bd):aW:=⟨2,(m:Int),a,0,0,0,ws,1,1⟩
def wD (a old new:Int):aW:=⟨3,0,a,0,old,new,[],1,1⟩
def Ay (a:Int):aW:=⟨1,0,a,1,0,0,[],1,1⟩
theorem nV {n L m:Nat} {a:Int} {ws:bd} (l:n<=5) (hm:m<n) (h:1<=L/\L<=256) (i:24<=a) (e:1<=ws.length) (f:ws.length<=1000) (g:a+ws.length<=L * 8):ic n L (cx m a ws):=by
 refine ⟨λk j d=>?_,⟨by show (0:Int)<=m;omega,by show (m:Int)<n;omega⟩,rfl,rfl⟩;have b:(cx m a ws).v.count=ws.length:=rfl;have c:(cx m a ws).v.inside k L=true:=by unfold aG.inside aG.cY aG.dd;rw [b];apply decide_eq_true;show 1<=k/\k<=5/\1<=(L:Int)/\(L:Int)<=256/\0<=(m:Int)/\(m:Int)<k/\0<=a/\a<(L:Int) * 8/\(ws.length:Int)<=1024/\(a+ws.length - 1) / 8<(L:Int)/\(a+ws.length - 1) / 8 - a / 8<128;omega
 unfold aG.valid;rw [b,if_neg (by omega),c,if_neg (by simp),if_neg];unfold aG.cY aG.dd aG.last;rw [b];show ¬ (a / 8<=(if (2:Int)=1 then 3 else 2)/\(if (2:Int)=1 then 3 else 2)<(a+ws.length - 1) / 8);rw [if_neg (by omega)];omega
structure Env where
 n:Nat
 L:Nat
 base:Nat->Nat->Int
 ff:Nat->Int
 ids:cP
 a6:Nat->cU
 VZ:Bool
def Env.on (E:Env) (i:Nat):Prop:=i ∈ E.ids
structure ey (E:Env) (i:Nat) (j:cU):Prop where
 dm:j.a1=(i:Int)
 i6:i<6
 valid:j.valid=0
 view:j.v=kc E.n
 some_:j.writes≠[]
 eD:j.writes.length<=12
 xM:j.reads.length<=24
 line:∀ p ∈ j.writes,∃ l:Nat,p.bo=(l:Int)/\96<=l/\l<E.L
 VX:∀ s ∈ j.reads,∃ l:Nat,s.bo=(l:Int)/\96<=l/\l<E.L
 uniq:∀ p ∈ j.writes,∀ q ∈ j.writes,p.bo=q.bo->p=q
 nodup:(j.writes.map (·.bo)).Nodup
 head:∀ p ∈ j.writes,p.Head=E.base p.bo.toNat 0
 QZ:∀ p ∈ j.writes,∀ k:Nat,k<6->eK p.Head k≠p.Head/\(eK p.Head k=eK p.Head i->k=i)
 next:∀ p ∈ j.writes,ln p.Head≠p.Head
 VW:∀ s ∈ j.reads,s.Head=E.base s.bo.toNat 0
 VV:∀ s ∈ j.reads,∀ p ∈ j.writes,s.bo≠p.bo
structure qb (E:Env):Prop where
 n:1<=E.n/\E.n<=5
 L:98<=E.L/\E.L<=256
 ids:E.ids.Nodup
 bM:∀ i,E.on i->ey E i (E.a6 i)
section
variable {E:Env} {i:Nat} {j:cU}
theorem ey.mem (h:ey E i j):j.v.mem=(List.range E.n).map bg:=by rw [h.view];rfl
theorem ey.num (h:ey E i j):j.v.number=0:=by rw [h.view];rfl
theorem ey.bN (h:ey E i j) (b:1<=E.n):sq j=bg 0:=by unfold sq;rw [h.mem];obtain ⟨k,a⟩:∃ k,E.n=k+1:=⟨E.n - 1,by omega⟩;rw [a,s'];rfl
theorem ey.tail (h:ey E i j):j.v.mem.tail=(List.range (E.n - 1)).map λm=>bg (m+1):=by
 rw [h.mem];cases a:E.n with
 |zero=>rfl
 |succ k=>rw [s'];simp
theorem ey.log (h:ey E i j) (a:Int) (ws:bd):pv j a ws=(List.range E.n).map λm=>cx m a ws:=by unfold pv;rw [h.mem,h.num,ru];rfl
theorem ey.gm (h:ey E i j) (a:1<=E.n) (p:aK):lI j p=wD (p.bo * 8) p.Head (eK p.Head i):=by unfold lI;rw [h.num,h.bN a,h.dm];rfl
theorem ey.read (h:ey E i j) (a:1<=E.n) (s:eQ):n4 j s=Ay (s.bo * 8):=by unfold n4;rw [h.num,h.bN a];rfl
def fG (m:Nat) (p:aK):aW:=cx m (p.bo * 8) (ix p)
def oq (i:Nat) (seq:Int) (m:Nat):aW:=cx m (32+(i:Int)) [seq]
theorem ey.d_ (h:ey E i j) (m:Nat) (p:aK):jw j (bg m) p=fG m p:=by unfold jw;rw [h.num];rfl
theorem ey.clock (h:ey E i j) (m:Nat):k9 j (bg m)=oq i j.seq m:=by unfold k9;rw [h.num,h.dm];rfl
theorem ey.FX (h:ey E i j) (a:1<=E.n):dC j=(j.writes.map λp=>wD (p.bo * 8) p.Head (eK p.Head i))++j.reads.map λs=>Ay (s.bo * 8):=by
 unfold dC;congr 1
 ·exact ti λp _=>h.gm a p
 ·exact ti λs _=>h.read a s
theorem ey.Fa (h:ey E i j):qf j=((List.range (E.n - 1)).map λm=>(j.writes.map (fG (m+1))++[oq i j.seq (m+1)])).flatten:=by
 unfold qf;rw [h.tail,ru];congr 1;refine ti λm _=>?_
 show j7 j (bg (m+1))=_;unfold j7;rw [if_neg h.some_,h.clock];congr 1;exact ti λp _=>h.d_ (m+1) p
theorem ey.Fl (h:ey E i j) (b:1<=E.n):h1 j=oq i j.seq 0::j.writes.map (fG 0):=by have hm:=h.mem;unfold h1;obtain ⟨k,a⟩:∃ k,E.n=k+1:=⟨E.n - 1,by omega⟩;rw [a,s'] at hm;rw [hm];simp only [f9];rw [h.clock];congr 1;exact ti λp _=>h.d_ 0 p
theorem ey.zT (h:ey E i j):nT j=(List.range E.n).map λm=>cx m (56+120 * (i:Int)) (fi j.seq j.writes):=by
 unfold nT;rw [h.log,h.dm];have e:e' (i:Int)+8=56+120 * (i:Int):=by unfold e';omega
 rw [e]
theorem ey.Ag (h:ey E i j):nU j=(List.range E.n).map λm=>cx m (48+120 * (i:Int)) [fQ j.seq]:=by unfold nU;rw [h.log,h.dm];rfl
end
end
section
open e7
structure wm (L:Nat) (dj:Bool) (n:aZ):Prop where
 up:n.down=false
 len:n.words.length=L * 8
 key:n.get 0=1
 ef:n.get 1=1
 d0:n.get 24=if dj=true then 2 else 1
 dS:∀ c:Nat,1<=c->c<6->n.get (24+c)=1
theorem D0 {N L:Nat} {dj:Bool} {n:aZ} (a:wm L dj n) (l:N<=5) {x:aW} (d:ic N L x) {p:dg} {c:Nat} (k:p.a1=c) (j:p.inc=1) (i:c<6):p.refusal x n=if x.v.cls=1/\x.v.Kind=1 then 0 else if dj=true/\c=0 then 5 else 0:=by
 unfold dg.refusal;rw [if_neg (by rw [a.up];simp),a.len,show L * 8 / 8=L by omega,if_neg (by rw [d.valid 5 (by omega) (by omega)];simp)];have e:(24+p.a1).toNat=24+c:=by rw [k];omega
 rw [e,a.key,a.ef,j];unfold aG.check;split
 ·rfl
 have h:¬ (x.v.cn<0\/x.v.cn≠1\/x.v.Key≠1):=by show ¬ (x.ef<0\/x.ef≠1\/x.key≠1);rw [d.key,d.ef];omega
 have g:∀ b:Int,(if (1:Int)<0\/(1:Int)<b then (5:Int) else if x.v.cls=1 then 0 else if x.v.cn<0\/x.v.cn≠1\/x.v.Key≠1 then 5 else 0)=if 1<b then 5 else 0:=λb=>by
  rw [if_neg h];by_cases ar:1<b
  ·rw [if_pos (.inr ar),if_pos ar]
  ·rw [if_neg (by omega),if_neg ar];split<;>rfl
 rw [g];by_cases f:c=0
 ·subst f;rw [l0,a.d0];cases dj<;>rfl
 ·rw [a.dS c (by omega) i,if_neg (by decide),if_neg (λe=>f e.2)]
theorem o_.aP {a k L:Nat} {dj:Bool} {n n':aZ} (h:o_ a k n n') (b:wm L dj n) (f:30<=a):wm L dj n':=
 ⟨h.down.trans b.up,h.len.trans b.len,(h.get 0 (by omega)).trans b.key,(h.get 1 (by omega)).trans b.ef,by rw [h.get 24 (by omega)];exact b.d0,λc d e=>by rw [h.get (24+c) (by omega)];exact b.dS c d e⟩
abbrev bI (E:Env):List aK:=(E.a6 0).writes
abbrev c_ (E:Env):Int:=(E.a6 0).seq
abbrev gS (E:Env):bd:=fi (c_ E) (bI E)
abbrev h' (E:Env):Int:=fQ (c_ E)
abbrev br (p:aK):Nat:=p.bo.toNat
structure b8 (E:Env):Prop where
 e:qb E
 one:E.ids=[0]
 rd:(E.a6 0).reads=[]
 QY:∀ p ∈ bI E,eK p.Head 0≠ln p.Head
 c6:fy (c_ E) (bI E) E.L=0
 lK:oZ (E.a6 0)
 u64:∀ p ∈ bI E,ca p.Head
 ff:0<=E.ff 0/\E.ff 0<c_ E
 b9:∀ l,96<=l->l<E.L->E.base l 0 % 2=0
theorem b8.bM {E:Env} (h:b8 E):ey E 0 (E.a6 0):=h.e.bM 0 (by unfold Env.on;rw [h.one];simp)
theorem b8.seq {E:Env} (h:b8 E):1<=c_ E/\c_ E<1073741824:=by obtain ⟨_,a,_⟩:=jj h.c6;exact ⟨a.1,a.2.1⟩
theorem b8.pl {E:Env} (h:b8 E) {p:aK} (c:p ∈ bI E):96<=br p/\br p<E.L/\p.bo=(br p:Int):=by
 obtain ⟨l,e,a,b⟩:=h.bM.line p c;have:br p=l:=by show p.bo.toNat=l;rw [e];rfl
 rw [this];exact ⟨a,b,e⟩
theorem b8.inj {E:Env} (h:b8 E) {p q:aK} (a:p ∈ bI E) (b:q ∈ bI E) (e:br p=br q):p=q:=
 h.bM.uniq p a q b (by rw [(h.pl a).2.2,(h.pl b).2.2,e])
theorem b8.lH {E:Env} (h:b8 E):(gS E).length=3+9 * (bI E).length/\(bI E).length<=12:=⟨pA _ _,h.bM.eD⟩
structure bt where
 bQ:Nat->Nat->Nat
 cG:Nat->Bool
 dJ:Nat->Bool
 eB:Nat->Bool
 dj:Nat->Bool
 dW:Int
def qp (E:Env) (p:aK) (s:Nat) (x:aZ):Prop:=match s with
 | 0=>∀ k,k<8->x.get (br p * 8+k)=E.base (br p) k
 | 1=>x.get (br p * 8)=eK p.Head 0/\∀ k,1<=k->k<8->x.get (br p * 8+k)=E.base (br p) k
 | _=>∀ k,k<8->x.get (br p * 8+k)=(ix p).getD k 0
structure Mem (E:Env) (A:bt) (m:Nat) (x:aZ):Prop where
 aP:wm E.L (A.dj m) x
 bQ:∀ p ∈ bI E,qp E p (A.bQ m (br p)) x
 gz:∀ l:Nat,96<=l->l<E.L->(∀ p ∈ bI E,br p≠l)->∀ k,k<8->x.get (l * 8+k)=E.base l k
 cH:∀ c:Nat,1<=c->c<6->x.get (32+c)=E.ff c
 dJ:x.get 32=if A.dJ m=true then c_ E else E.ff 0
 cG:x.get 48=if A.cG m=true then h' E else 0
 dW:m=0->x.get 49=A.dW
 eB:A.eB m=true->∀ k,k<(gS E).length->x.get (56+k)=(gS E).getD k 0
structure jA (E:Env) (A:bt) (bB:List aZ):Prop where
 len:bB.length=E.n
 mem:∀ (m:Nat) (x:aZ),bB[m]?=some x->Mem E A m x
structure e8 (E:Env) (A:bt):Prop where
 cY:∀ m,m<E.n->∀ p ∈ bI E,A.bQ m (br p)<=2/\(1<=m->A.bQ m (br p)≠1)
 l2:∀ m,m<E.n->A.cG m=true->(∀ bW,bW<E.n->A.eB bW=true)/\∀ p ∈ bI E,A.bQ 0 (br p)≠0
 iC:∀ m,m<E.n->∀ p ∈ bI E,A.bQ m (br p)=2->∀ bW,bW<E.n->A.cG bW=true
 mq:∀ m,m<E.n->A.dJ m=true->∀ bW,bW<E.n->A.cG bW=true
 lL:∀ p ∈ bI E,A.bQ 0 (br p)=2->A.dJ 0=true
 k1:A.dJ 0=true->∀ m,1<=m->m<E.n->A.dJ m=true
 j5:∀ m,1<=m->m<E.n->A.dJ m=true->∀ p ∈ bI E,A.bQ m (br p)=2
def hX (E:Env) (A:bt):Prop:=∀ m,m<E.n->A.cG m=true
def f' (E:Env) (A:bt):Prop:=∀ m,m<E.n->A.cG m=false
def ia (E:Env) (A:bt):Prop:=∀ m,m<E.n->A.eB m=true
def jc (E:Env) (A:bt):Prop:=∀ m,m<E.n->A.dj m=true
def qa (E:Env) (A:bt):Prop:=∀ m,1<=m->m<E.n->A.dJ m=true
def n6 (E:Env) (A:bt):Prop:=hX E A/\A.dJ 0=true/\∀ p ∈ bI E,A.bQ 0 (br p)=2
def rS (E:Env) (A:bt):Prop:=jc E A/\f' E A/\∀ p ∈ bI E,A.bQ 0 (br p)=0
structure dp (E:Env) (A A':bt):Prop where
 cG:∀ m,A.cG m=true->A'.cG m=true
 dJ:∀ m,A.dJ m=true->A'.dJ m=true
 eB:∀ m,A.eB m=true->A'.eB m=true
 dj:∀ m,A.dj m=true->A'.dj m=true
 bQ:∀ m l,A.bQ m l=2->A'.bQ m l=2
theorem dp.refl (E:Env) (A:bt):dp E A A:=⟨λ_ h=>h,λ_ h=>h,λ_ h=>h,λ_ h=>h,λ_ _ h=>h⟩
theorem dp.am {E:Env} {A A':bt} (h:dp E A A') (g:hX E A):hX E A':=λm hm=>h.cG m (g m hm)
theorem dp.lb {E:Env} {A A':bt} (h:dp E A A') (g:ia E A):ia E A':=λm hm=>h.eB m (g m hm)
theorem dp.bw {E:Env} {A A':bt} (h:dp E A A') (g:jc E A):jc E A':=λm hm=>h.dj m (g m hm)
theorem dp.qC {E:Env} {A A':bt} (h:dp E A A') (g:qa E A):qa E A':=λm a hm=>h.dJ m (g m a hm)
theorem dp.Fk {E:Env} {A A':bt} (h:dp E A A') (g:n6 E A):n6 E A':=⟨h.am g.1,h.dJ 0 g.2.1,λp a=>h.bQ 0 _ (g.2.2 p a)⟩
def bt.gR (A:bt) (m l s:Nat):bt:={ A with bQ:=λbW l'=>if bW=m/\l'=l then s else A.bQ bW l' }
def bt.jv (A:bt) (m:Nat):bt:={ A with cG:=λbW=>if bW=m then true else A.cG bW }
def bt.lj (A:bt) (m:Nat):bt:={ A with dJ:=λbW=>if bW=m then true else A.dJ bW }
def bt.pM (A:bt) (m:Nat):bt:={ A with eB:=λbW=>if bW=m then true else A.eB bW }
def bt.oM (A:bt) (m:Nat):bt:={ A with dj:=λbW=>if bW=m then true else A.dj bW }
def bt.q6 (A:bt) (t:Int):bt:={ A with dW:=t }
section
variable {E:Env} {A:bt} {bB:List aZ} {m:Nat} {x fT:aZ}
theorem jA.fl (h:jA E A bB) {A':bt} (d:bB[m]?=some x) (hm:Mem E A' m fT) (c:∀ bW,bW≠m->∀ y,Mem E A bW y->Mem E A' bW y):jA E A' (bB.set m fT):=by
 refine ⟨by simpa using h.len,λbW y a=>?_⟩;by_cases e:m=bW
 ·subst e;rw [jy (cb d)] at a;cases a;exact hm
 ·rw [hW e] at a;exact c bW (λb=>e b.symm) y (h.mem bW y a)
theorem Mem.same (h:Mem E A m x) {A':bt} (b:∀ p ∈ bI E,A'.bQ m (br p)=A.bQ m (br p)) (c:A'.cG m=A.cG m) (d:A'.dJ m=A.dJ m) (f:A'.eB m=A.eB m) (g:A'.dj m=A.dj m) (i:m=0->A'.dW=A.dW):Mem E A' m x:=
 ⟨by rw [g];exact h.aP,λp a=>by rw [b p a];exact h.bQ p a,h.gz,h.cH,by rw [d];exact h.dJ,by rw [c];exact h.cG,λe=>by rw [i e];exact h.dW e,by rw [f];exact h.eB⟩
theorem qp.gi {p:aK} {s a k:Nat} (h:qp E p s x) (e:o_ a k x fT) (ar:a+k<=br p * 8\/br p * 8+8<=a):qp E p s fT:=by
 have g:∀ b,b<8->fT.get (br p * 8+b)=x.get (br p * 8+b):=λb c=>e.get _ (by omega)
 unfold qp at h ⊢;split at h
 ·exact λb c=>by rw [g b c];exact h b c
 ·exact ⟨by have:=g 0 (by omega);rw [l0] at this;rw [this];exact h.1,λb d c=>by rw [g b c];exact h.2 b d c⟩
 ·exact λb c=>by rw [g b c];exact h b c
theorem Mem.low (ay:b8 E) (h:Mem E A m x) {a k:Nat} (b:o_ a k x fT) (u:30<=a) (z:a+k<=768) {A':bt} (o:∀ p ∈ bI E,A'.bQ m (br p)=A.bQ m (br p)) (g:A'.dj m=A.dj m)
  (r:38<=a\/a+k<=33) (f:fT.get 32=if A'.dJ m=true then c_ E else E.ff 0) (j:fT.get 48=if A'.cG m=true then h' E else 0) (q:m=0->fT.get 49=A'.dW) (e:A'.eB m=true->∀ k,k<(gS E).length->fT.get (56+k)=(gS E).getD k 0):Mem E A' m fT:=
 ⟨by rw [g];exact b.aP h.aP u,λp n=>by rw [o p n];exact (h.bQ p n).gi b (by have:=ay.pl n;omega),λl d s t y i=>by rw [b.get _ (by omega)];exact h.gz l d s t y i,λc d w=>by rw [b.get _ (by omega)];exact h.cH c d w,f,j,q,e⟩
theorem Mem.d_ (ay:b8 E) (h:Mem E A m x) {p:aK} (f:p ∈ bI E) (a:o_ (br p * 8) 8 x fT) {s:Nat} (t:qp E p s fT):Mem E (A.gR m (br p) s) m fT:=by
 have u:=ay.pl f;refine ⟨a.aP h.aP (by omega),λq j=>?_,λl b n i k d=>?_,λc b r=>by rw [a.get _ (by omega)];exact h.cH c b r,by rw [a.get _ (by omega)];exact h.dJ,by rw [a.get _ (by omega)];exact h.cG,λe=>by rw [a.get _ (by omega)];exact h.dW e,λo k d=>?_⟩
 ·show qp E q (if m=m/\br q=br p then s else A.bQ m (br q)) fT;by_cases e:br q=br p
  ·rw [if_pos ⟨rfl,e⟩,ay.inj j f e];exact t
  ·rw [if_neg (λg=>e g.2)];exact (h.bQ q j).gi a (by omega)
 ·have:=i p f;rw [a.get _ (by omega)];exact h.gz l b n i k d
 ·have:=ay.lH;rw [a.get _ (by omega)];exact h.eB o k d
end
end
section
open e7
section
variable {E:Env} {A:bt} {m:Nat} {p:aK}
theorem e8.PR (h:e8 E A) (m:Nat):e8 E (A.pM m):=by
 obtain ⟨cY,l2,iC,mq,lL,k1,j5⟩:=h;refine ⟨cY,λk b e=>⟨λc a=>?_,(l2 k b e).2⟩,iC,mq,lL,k1,j5⟩;have:=(l2 k b e).1 c a;simp only [bt.pM];split
 ·rfl
 ·exact this
theorem e8.zX (h:e8 E A) (m:Nat):e8 E (A.oM m):=⟨h.cY,h.l2,h.iC,h.mq,h.lL,h.k1,h.j5⟩
theorem e8.tag (h:e8 E A) (t:Int):e8 E (A.q6 t):=⟨h.cY,h.l2,h.iC,h.mq,h.lL,h.k1,h.j5⟩
theorem e8.jn (h:e8 E A) {l s:Nat} (j:s<=2) (n:1<=m->s≠1) (o:s=0->m=0->f' E A) (r:s=2->hX E A) (t:s=2->m=0->A.dJ 0=true) (u:1<=m->A.bQ m l=2->s=2):e8 E (A.gR m l s):=by
 obtain ⟨cY,l2,iC,mq,lL,k1,j5⟩:=h;have e:∀ k q,(A.gR m l s).bQ k q=if k=m/\q=l then s else A.bQ k q:=λ_ _=>rfl
 refine ⟨λk a p b=>?_,λk a hm=>⟨(l2 k a hm).1,λp b=>?_⟩,λk a p b=>?_,mq,λp b=>?_,k1,λk c a d p b=>?_⟩
 ·rw [e];split
  ·rename_i g;rw [g.1];exact ⟨j,n⟩
  ·exact cY k a p b
 ·rw [e];split
  ·rename_i g;intro f;have hm:A.cG k=true:=hm;rw [o f g.1.symm k a] at hm;cases hm
  ·exact (l2 k a hm).2 p b
 ·rw [e];split
  ·exact r
  ·exact iC k a p b
 ·rw [e];split
  ·rename_i g;exact λi=>t i g.1.symm
  ·exact lL p b
 ·rw [e];split
  ·rename_i g;have:=j5 k c a d p b;rw [g.1,g.2] at this;exact u (by omega) this
  ·exact j5 k c a d p b
theorem e8.uE (h:e8 E A) (f:ia E A) (d:∀ p ∈ bI E,A.bQ 0 (br p)≠0) (m:Nat):e8 E (A.jv m):=by
 obtain ⟨cY,l2,iC,mq,lL,k1,j5⟩:=h;have up:∀ k,A.cG k=true->(A.jv m).cG k=true:=λk b=>by simp only [bt.jv];split;rfl;exact b
 exact ⟨cY,λk b e=>⟨f,d⟩,λk b p d e c a=>up c (iC k b p d e c a),λk b e c a=>up c (mq k b e c a),lL,k1,j5⟩
theorem e8.ui (h:e8 E A) (l:hX E A) (i:m=0->qa E A) (j:1<=m->∀ p ∈ bI E,A.bQ m (br p)=2):e8 E (A.lj m):=by
 obtain ⟨cY,l2,iC,mq,lL,k1,j5⟩:=h;have e:∀ k,(A.lj m).dJ k=if k=m then true else A.dJ k:=λ_=>rfl
 have up:∀ k,A.dJ k=true->(A.lj m).dJ k=true:=λk c=>by rw [e];split;rfl;exact c
 refine ⟨cY,l2,iC,λk c _=>l,λp d f=>up 0 (lL p d f),λb k a c=>?_,λk a c b p d=>?_⟩
 ·rw [e] at b;by_cases g:0=m
  ·exact up k (i g.symm k a c)
  ·rw [if_neg g] at b;exact up k (k1 b k a c)
 ·rw [e] at b;by_cases g:k=m
  ·rw [g];exact j (by omega) p d
  ·rw [if_neg g] at b;exact j5 k a c b p d
theorem vH {l s:Nat} (h:A.bQ m l=2->s=2):dp E A (A.gR m l s):=⟨λ_ h=>h,λ_ h=>h,λ_ h=>h,λ_ h=>h,λk q e=>by
 show (if k=m/\q=l then s else A.bQ k q)=2;split
 ·rename_i g;rw [g.1,g.2] at e;exact h e
 ·exact e⟩
theorem DD:dp E A (A.jv m):=⟨λk h=>by simp only [bt.jv];split;rfl;exact h,λ_ h=>h,λ_ h=>h,λ_ h=>h,λ_ _ h=>h⟩
theorem DE:dp E A (A.lj m):=⟨λ_ h=>h,λk h=>by simp only [bt.lj];split;rfl;exact h,λ_ h=>h,λ_ h=>h,λ_ _ h=>h⟩
theorem Ni:dp E A (A.pM m):=⟨λ_ h=>h,λ_ h=>h,λk h=>by simp only [bt.pM];split;rfl;exact h,λ_ h=>h,λ_ _ h=>h⟩
theorem Nj:dp E A (A.oM m):=⟨λ_ h=>h,λ_ h=>h,λ_ h=>h,λk h=>by simp only [bt.oM];split;rfl;exact h,λ_ _ h=>h⟩
theorem DF {t:Int}:dp E A (A.q6 t):=⟨λ_ h=>h,λ_ h=>h,λ_ h=>h,λ_ h=>h,λ_ _ h=>h⟩
end
section
variable {E:Env} {A:bt} {bB:List aZ} {m:Nat} {x:aZ}
theorem Mem.wr (h:Mem E A m x) (ay:b8 E) {a:Nat} {ws:bd} (b:a+ws.length<=E.L * 8):o_ a ws.length x (x.write a ws):=
 ⟨BX (by rw [h.aP.len];exact b),rfl,λi c=>by rw [sy (by rw [h.aP.len];exact b),if_neg (by omega)]⟩
theorem b8.mr {E:Env} (h:b8 E):784<=E.L * 8:=by have:=h.e.L;omega
theorem Mem.uE (ay:b8 E) (h:Mem E A m x):Mem E (A.jv m) m (x.write 48 [h' E]):=by
 have b:=ay.mr;have g:=sy (n:=x) (a:=48) (ws:=[h' E]) (by rw [h.aP.len];simp;omega);refine h.low ay (h.wr ay (by simp;omega)) (by omega) (by simp) (λ_ _=>rfl) rfl (.inl (by omega)) ?_ ?_ (λe=>?_) λb k c=>?_
 ·rw [g,if_neg (by simp)];exact h.dJ
 ·rw [g,if_pos (by simp)];simp [bt.jv]
 ·rw [g,if_neg (by simp)];exact h.dW e
 ·rw [g,if_neg (by simp;omega)];exact h.eB b k c
theorem Mem.Vc (ay:b8 E) (h:Mem E A m x) (c:A.cG m=false):Mem E A m (x.write 48 [0]):=by
 have b:=ay.mr;have g:=sy (n:=x) (a:=48) (ws:=[0]) (by rw [h.aP.len];simp;omega);refine h.low ay (h.wr ay (by simp;omega)) (by omega) (by simp) (λ_ _=>rfl) rfl (.inl (by omega)) ?_ ?_ (λe=>?_) λb k d=>?_
 ·rw [g,if_neg (by simp)];exact h.dJ
 ·rw [g,if_pos (by simp),c];simp
 ·rw [g,if_neg (by simp)];exact h.dW e
 ·rw [g,if_neg (by simp;omega)];exact h.eB b k d
theorem Mem.ui (ay:b8 E) (h:Mem E A m x):Mem E (A.lj m) m (x.write 32 [c_ E]):=by
 have b:=ay.mr;have g:=sy (n:=x) (a:=32) (ws:=[c_ E]) (by rw [h.aP.len];simp;omega);refine h.low ay (h.wr ay (by simp;omega)) (by omega) (by simp) (λ_ _=>rfl) rfl (.inr (by simp)) ?_ ?_ (λe=>?_) λb k c=>?_
 ·rw [g,if_pos (by simp)];simp [bt.lj]
 ·rw [g,if_neg (by simp)];exact h.cG
 ·rw [g,if_neg (by simp)];exact h.dW e
 ·rw [g,if_neg (by simp;omega)];exact h.eB b k c
theorem Mem.new (ay:b8 E) (h:Mem E A m x) {p:aK} (b:p ∈ bI E):Mem E (A.gR m (br p) 2) m (x.write (br p * 8) (ix p)):=by
 have d:=ay.pl b;refine h.d_ ay b (h.wr ay (a:=br p * 8) (ws:=ix p) (by show br p * 8+8<=_;omega)) λk c=>?_
 rw [sy (by rw [h.aP.len];show br p * 8+8<=_;omega),if_pos (by show br p * 8<=br p * 8+k/\br p * 8+k<br p * 8+8;omega)];congr 1;omega
theorem Mem.st (h:Mem E A m x) (ay:b8 E) {a:Nat} (b:a<E.L * 8) (v:Int):o_ a 1 x { x with words:=x.words.set a v }/\∀ i,({ x with words:=x.words.set a v }:aZ).get i=if i=a then v else x.get i:=by have g:=Nf (n:=x) (a:=a) (by rw [h.aP.len];exact b) v;exact ⟨⟨by simp,rfl,λi c=>by rw [g,if_neg (by omega)]⟩,g⟩
theorem Mem.Q0 (ay:b8 E) (h:Mem E A m x) {p:aK} (d:p ∈ bI E) (e:A.bQ m (br p)=0):Mem E (A.gR m (br p) 1) m { x with words:=x.words.set (br p * 8) (eK p.Head 0) }:=by have n:=ay.pl d;obtain ⟨c,g⟩:=h.st ay (a:=br p * 8) (by omega) (eK p.Head 0);have b:=h.bQ p d;rw [e] at b;refine h.d_ ay d ⟨c.len,c.down,λi l=>c.get i (by omega)⟩ ⟨by rw [g,if_pos rfl],λk j f=>?_⟩;rw [g,if_neg (by omega)];exact b k f
theorem Mem.lV (ay:b8 E) (h:Mem E A m x) {p:aK} (c:p ∈ bI E) (f:A.bQ m (br p)=1):Mem E (A.gR m (br p) 0) m { x with words:=x.words.set (br p * 8) p.Head }:=by
 have n:=ay.pl c;obtain ⟨d,g⟩:=h.st ay (a:=br p * 8) (by omega) p.Head;have b:=h.bQ p c;rw [f] at b;refine h.d_ ay c ⟨d.len,d.down,λi l=>d.get i (by omega)⟩ λk j=>?_
 by_cases e:k=0
 ·subst e;rw [g,if_pos (by omega)];exact ay.bM.head p c
 ·rw [g,if_neg (by omega)];exact b.2 k (by omega) j
theorem Mem.zX (ay:b8 E) (h:Mem E A m x):Mem E (A.oM m) m { x with words:=x.words.set 24 2 }:=by
 have j:=ay.mr;obtain ⟨n,g⟩:=h.st ay (a:=24) (by omega) 2;have bV:∀ i,i≠24->({ x with words:=x.words.set 24 2 }:aZ).get i=x.get i:=λi s=>by rw [g,if_neg s]
 refine ⟨⟨h.aP.up,n.len.trans h.aP.len,(bV 0 (by omega)).trans h.aP.key,(bV 1 (by omega)).trans h.aP.ef,by rw [g,if_pos rfl];simp [bt.oM],λc b d=>by rw [bV _ (by omega)];exact h.aP.dS c b d⟩,λp o=>(h.bQ p o).gi n (by have:=ay.pl o;omega),λl b q r k f=>by rw [bV _ (by omega)];exact h.gz l b q r k f,λc b d=>by rw [bV _ (by omega)];exact h.cH c b d,by rw [bV _ (by omega)];exact h.dJ,by rw [bV _ (by omega)];exact h.cG,λe=>by rw [bV _ (by omega)];exact h.dW e,λj k f=>by rw [bV _ (by omega)];exact h.eB j k f⟩
theorem Mem.tag (ay:b8 E) (h:Mem E A 0 x) (t:Int):Mem E (A.q6 t) 0 { x with words:=x.words.set 49 t }:=by
 have b:=ay.mr;obtain ⟨c,g⟩:=h.st ay (a:=49) (by omega) t;refine h.low ay c (by omega) (by omega) (λ_ _=>rfl) rfl (.inl (by omega)) ?_ ?_ (λe=>?_) λb k d=>?_
 ·rw [g,if_neg (by omega)];exact h.dJ
 ·rw [g,if_neg (by omega)];exact h.cG
 ·rw [g,if_pos rfl];rfl
 ·rw [g,if_neg (by omega)];exact h.eB b k d
theorem Mem.ar (ay:b8 E) (h:Mem E A m x) {p:aK} (d:p ∈ bI E) (i:A.bQ m (br p)<=2):(A.bQ m (br p)=0->x.get (br p * 8)=p.Head)/\(x.get (br p * 8)=eK p.Head 0↔A.bQ m (br p)=1):=by
 have a:=h.bQ p d;have g:=ay.bM;have j:=g.head p d;have f:=(g.QZ p d 0 (by omega)).1;have k:=ay.QY p d;generalize l:A.bQ m (br p)=s at a i ⊢
 match s,a,i with
 | 0,a,_=>have e:=a 0 (by omega);rw [l0] at e;have c:x.get (br p * 8)=p.Head:=e.trans j.symm;exact ⟨λ_=>c,⟨λb=>absurd (b.symm.trans c) f,λb=>by cases b⟩⟩
 | 1,a,_=>exact ⟨λe=>(by cases e),⟨λ_=>rfl,λ_=>a.1⟩⟩
 | 2,a,_=>have e:=a 0 (by omega);rw [l0] at e;have c:x.get (br p * 8)=ln p.Head:=e;exact ⟨λe=>(by cases e),⟨λb=>absurd (b.symm.trans c) k,λb=>by cases b⟩⟩
end
end
section
open e7
def fW (m:Nat) (a o w:Int):aW:=⟨3,(m:Int),a,0,o,w,[],1,1⟩
def cR (m:Nat) (a k:Int):aW:=⟨1,(m:Int),a,k,0,0,[],1,1⟩
theorem wd {n L m:Nat} {a o w:Int} (i:n<=5) (hm:m<n) (f:1<=L/\L<=256) (g:24<=a) (e:a+1<=L * 8):ic n L (fW m a o w):=by
 refine ⟨λk h d=>?_,⟨by show (0:Int)<=m;omega,by show (m:Int)<n;omega⟩,rfl,rfl⟩;have b:(fW m a o w).v.count=1:=rfl;have c:(fW m a o w).v.inside k L=true:=by unfold aG.inside aG.cY aG.dd;rw [b];apply decide_eq_true;show 1<=k/\k<=5/\1<=(L:Int)/\(L:Int)<=256/\0<=(m:Int)/\(m:Int)<k/\0<=a/\a<(L:Int) * 8/\(1:Int)<=1024/\(a+1 - 1) / 8<(L:Int)/\(a+1 - 1) / 8 - a / 8<128;omega
 unfold aG.valid;rw [b,if_neg (by omega),c,if_neg (by simp),if_neg];unfold aG.cY aG.dd aG.last;rw [b];show ¬ (a / 8<=(if (3:Int)=1 then 3 else 2)/\(if (3:Int)=1 then 3 else 2)<(a+1 - 1) / 8);rw [if_neg (by omega)];omega
theorem nJ {n L m:Nat} {a c:Int} (l:n<=5) (hm:m<n) (h:1<=L/\L<=256) (i:0<=a) (f:1<=c/\c<=1000) (g:a+c<=L * 8) (o:32<=a\/a+c<=32):ic n L (cR m a c):=by
 refine ⟨λk j e=>?_,⟨by show (0:Int)<=m;omega,by show (m:Int)<n;omega⟩,rfl,rfl⟩;have b:(cR m a c).v.count=c:=rfl;have d:(cR m a c).v.inside k L=true:=by unfold aG.inside aG.cY aG.dd;rw [b];apply decide_eq_true;show 1<=k/\k<=5/\1<=(L:Int)/\(L:Int)<=256/\0<=(m:Int)/\(m:Int)<k/\0<=a/\a<(L:Int) * 8/\c<=1024/\(a+c - 1) / 8<(L:Int)/\(a+c - 1) / 8 - a / 8<128;omega
 unfold aG.valid;rw [b,if_neg (by omega),d,if_neg (by simp),if_neg];unfold aG.cY aG.dd aG.last;rw [b];show ¬ (a / 8<=(if (1:Int)=1 then 3 else 2)/\(if (1:Int)=1 then 3 else 2)<(a+c - 1) / 8);rw [if_pos rfl];omega
theorem yN:∀ (f:Nat) (a c:Int),a % 8=0->c<=f->∀ e:Nat,(hz f a c)[e]?=if 8 * (e:Int)<c then some (a+8 * e,if 8<c - 8 * e then 8 else c - 8 * e) else none
 | 0,a,c,g,i,e=>by rw [if_neg (by omega)];rfl
 |f+1,a,c,g,i,e=>by
  unfold hz;by_cases b:c<=0
  ·rw [if_pos b,if_neg (by omega)];rfl
  rw [if_neg b,g];by_cases d:8 - 0<c
  ·rw [if_pos d];cases e with
   |zero=>rw [if_pos (by omega)];simp only [rp];congr 1;rw [if_pos (by omega)];simp
   |succ e=>
    rw [nY,yN f _ _ (by omega) (by omega) e];by_cases h:8 * ((e+1:Nat):Int)<c
    ·rw [if_pos (by omega),if_pos h];congr 2
     ·omega
     ·congr 1
      ·simp;omega
      ·omega
    ·rw [if_neg (by omega),if_neg h]
  ·rw [if_neg d];cases e with
   |zero=>rw [if_pos (by omega)];simp only [rp];rw [if_neg (by omega)];simp
   |succ e=>
    rw [nY,if_neg (by omega)];cases f with
    |zero=>rfl
    |succ f=>unfold hz;rw [if_pos (by omega)];rfl
section
variable {p:dg} {x:aZ} {eX:List aW} {m:Nat}
theorem zD {a:Nat} {ws:bd} (t:fL p) (j:p.ba=cx m a ws::eX) (u:p.refusal (cx m a ws) x=0) (z:a % 8=0) (ar:p.words=[]) (C:a+ws.length<=x.words.length) :
  8 * p.bF<ws.length/\(p.step x).2.1=x.write (a+8 * p.bF) ((ws.drop (8 * p.bF)).take 8)/\o_ a ws.length x (p.step x).2.1/\(∀ k,k<ws.length->8 * p.bF<=k/\k<8 * (p.bF+1)\/x.get (a+k)=ws.getD k 0->(p.step x).2.1.get (a+k)=ws.getD k 0)/\
   ((8 * (p.bF+1)<ws.length/\(p.step x).1={ p with bF:=p.bF+1 }/\(p.step x).2.2=none)\/(ws.length<=8 * (p.bF+1)/\(p.step x).1=p.done/\(p.step x).2.2=some ⟨0,[]⟩)):=by
 have r:=t.hO _ _ j;have c:(cx m a ws).v.count=ws.length:=rfl;have s:∀ e:Nat,(cx m a ws).v.pieces[e]?=if 8 * (e:Int)<ws.length then some ((a:Int)+8 * e,if 8<(ws.length:Int) - 8 * e then 8 else (ws.length:Int) - 8 * e) else none:=λe=>by unfold aG.pieces;rw [c];exact yN _ _ _ (by show (a:Int) % 8=0;omega) (by omega) e
 have hlen:∀ e:Nat,e<(cx m a ws).v.pieces.length↔8 * e<ws.length:=λe=>by
  have:=s e;constructor
  ·intro h;rw [bD h] at this;by_cases o:8 * (e:Int)<ws.length
   ·omega
   ·rw [if_neg o] at this;cases this
  ·intro h;rw [if_pos (by omega)] at this;exact cb this
 have o:=(hlen _).1 r;have q:(cx m a ws).v.pieces.getD p.bF (0,0)=((a:Int)+8 * p.bF,if 8<(ws.length:Int) - 8 * p.bF then 8 else (ws.length:Int) - 8 * p.bF):=by rw [dF,s,if_pos (by omega)];rfl
 have y:exec (cx m a ws) ((cx m a ws).v.pieces.getD p.bF (0,0)) x=(x.write (a+8 * p.bF) ((ws.drop (8 * p.bF)).take 8),[]):=by
  rw [q];unfold exec;rw [if_neg (show ¬ (cx m a ws).kind=1 by show ¬ (2:Int)=1;omega),if_pos (show (cx m a ws).kind=2 from rfl)];show (x.write ((a:Int)+8 * p.bF).toNat ((ws.drop ((a:Int)+8 * p.bF - (a:Int)).toNat).take (if 8<(ws.length:Int) - 8 * p.bF then (8:Int) else (ws.length:Int) - 8 * p.bF).toNat),([]:bd))=_;have e:(ws.drop (8 * p.bF)).take (if 8<(ws.length:Int) - 8 * p.bF then (8:Int) else (ws.length:Int) - 8 * p.bF).toNat=(ws.drop (8 * p.bF)).take 8:=by
   split
   ·rfl
   ·rw [hS (by rw [l1];omega),hS (by rw [l1];omega)]
  rw [show ((a:Int)+8 * p.bF - (a:Int)).toNat=8 * p.bF by omega,show ((a:Int)+8 * p.bF).toNat=a+8 * p.bF by omega,e]
 have b:=u7 j u;rw [y,ar] at b;have w:((ws.drop (8 * p.bF)).take 8).length<=8/\a+8 * p.bF+((ws.drop (8 * p.bF)).take 8).length<=a+ws.length:=by simp;omega
 have g:=sy (n:=x) (a:=a+8 * p.bF) (ws:=(ws.drop (8 * p.bF)).take 8) (by omega);have l:(p.step x).2.1=x.write (a+8 * p.bF) ((ws.drop (8 * p.bF)).take 8):=by rw [b];split<;>rfl
 refine ⟨o,l,?_,λk B d=>?_,?_⟩
 ·rw [l];exact ⟨BX (by omega),rfl,λi A=>by rw [g,if_neg (by omega)]⟩
 ·rw [l,g];by_cases f:a+8 * p.bF<=a+k/\a+k<a+8 * p.bF+((ws.drop (8 * p.bF)).take 8).length
  ·rw [if_pos f,show a+k - (a+8 * p.bF)=k - 8 * p.bF by omega];simp only [dF];rw [tg (by omega),lu];congr 2;omega
  ·rw [if_neg f];rcases d with d | d
   ·exfalso;simp at f <;> omega
   ·exact d
 ·rw [b];by_cases h:p.bF+1<(cx m a ws).v.pieces.length
  ·rw [if_pos h];exact .inl ⟨(hlen _).1 h,by simp [ar],rfl⟩
  ·rw [if_neg h];exact .inr ⟨by have:=(hlen (p.bF+1));omega,rfl,rfl⟩
theorem O3 {a k:Nat} (q:fL p) (i:p.ba=cR m a k::eX) (r:p.refusal (cR m a k) x=0) (l:a % 8=0\/k=1) (ar:p.words=(x.words.drop a).take (8 * p.bF)) (s:a+k<=x.words.length) :
  (p.step x).2.1=x/\(((p.step x).1={ p with bF:=p.bF+1,words:=(x.words.drop a).take (8 * (p.bF+1)) }/\(p.step x).2.2=none)\/((p.step x).1=p.done/\(p.step x).2.2=some ⟨0,(x.words.drop a).take k⟩)):=by
 have f:=q.hO _ _ i;have c:(cR m a k).v.count=k:=rfl;have b:=u7 i r;by_cases g:k=1
 ·subst g;have d:(cR m a (1:Nat)).v.pieces=[((a:Int),1)]:=qS (v:=(cR m a (1:Nat)).v) (by show (1:Int)<=1;omega) (by show (a:Int) % 8+1<=8;omega) (by show (0:Int)<=a;omega);have he:p.bF=0:=by rw [d] at f;simp at f;exact f
  rw [d,he] at b;rw [b];refine ⟨by simp [exec,cR],.inr ⟨by simp,?_⟩⟩;rw [ar,he];simp [exec,cR,aZ.read]
 have l:a % 8=0:=l.resolve_right g;have n:∀ e:Nat,(cR m a k).v.pieces[e]?=if 8 * (e:Int)<k then some ((a:Int)+8 * e,if 8<(k:Int) - 8 * e then 8 else (k:Int) - 8 * e) else none:=λe=>by unfold aG.pieces;rw [c];exact yN _ _ _ (by show (a:Int) % 8=0;omega) (by omega) e
 have hlen:∀ e:Nat,e<(cR m a k).v.pieces.length↔8 * e<k:=λe=>by
  have:=n e;constructor
  ·intro h;rw [bD h] at this;by_cases j:8 * (e:Int)<k
   ·omega
   ·rw [if_neg j] at this;cases this
  ·intro h;rw [if_pos (by omega)] at this;exact cb this
 have j:=(hlen _).1 f;have d:(cR m a k).v.pieces.getD p.bF (0,0)=((a:Int)+8 * p.bF,if 8<(k:Int) - 8 * p.bF then 8 else (k:Int) - 8 * p.bF):=by rw [dF,n,if_pos (by omega)];rfl
 have hw:p.words++(exec (cR m a k) ((cR m a k).v.pieces.getD p.bF (0,0)) x).2=(x.words.drop a).take (min (8 * (p.bF+1)) k):=by rw [d,ar];unfold exec;rw [if_pos (show (cR m a k).kind=1 from rfl)];simp only [aZ.read];rw [show ((a:Int)+8 * p.bF).toNat=a+8 * p.bF by omega,<-ve,<-List.take_add];congr 1;split<;>omega
 have o:(exec (cR m a k) ((cR m a k).v.pieces.getD p.bF (0,0)) x).1=x:=by unfold exec;rw [if_pos (show (cR m a k).kind=1 from rfl)]
 rw [hw,o] at b;rw [b];by_cases h:p.bF+1<(cR m a k).v.pieces.length
 ·rw [if_pos h];have:=(hlen _).1 h;rw [show min (8 * (p.bF+1)) k=8 * (p.bF+1) by omega];exact ⟨rfl,.inl ⟨rfl,rfl⟩⟩
 ·rw [if_neg h];have:=hlen (p.bF+1);rw [show min (8 * (p.bF+1)) k=k by omega];exact ⟨rfl,.inr ⟨rfl,rfl⟩⟩
theorem tM {a:Nat} {o w:Int} (c:fL p) (b:p.ba=fW m a o w::eX) (e:p.refusal (fW m a o w) x=0):p.step x=(p.done,x.gm a o w,some ⟨0,[x.get a]⟩):=by have d:(fW m a o w).v.pieces=[((a:Int),1)]:=qS (v:=(fW m a o w).v) (by show (1:Int)<=1;omega) (by show (a:Int) % 8+1<=8;omega) (by show (0:Int)<=a;omega);rw [C0 c b e d,K6 rfl];rfl
theorem zh {v:aW} (a:p.ba=v::eX) (b:p.refusal v x≠0):p.step x=(p.done,x,some ⟨p.refusal v x,[]⟩):=by unfold dg.step;rw [a];simp only;rw [if_pos b]
end
end
section
def oQ (i:Int):Bool:=decide (1<=i/\i<=59) && (Int.tmod i 2 == 1)
def f7 (i c:Int):Int:=if oQ i=false then 2 else if ¬ (0<=c/\c<6) then 1 else 0
def gv (i c:Int):Int:=if f7 i c=0 then i * 256+(c+1) else 0
def kE (t:Int):Int:=if f7 (t / 256) (t % 256 - 1)=0 then t / 256 else 0
def pu (t:Int):Int:=if f7 (t / 256) (t % 256 - 1)=0 then t % 256 - 1 else 0
def mK (t:Int):Bool:=decide (f7 (t / 256) (t % 256 - 1)=0)
theorem uY {i c:Int} (h:f7 i c=0):(1<=i/\i<=59)/\0<=c/\c<6:=by
 unfold f7 at h;split at h
 ·cases h
 ·rename_i a;split at h
  ·cases h
  ·rename_i b;have b:0<=c/\c<6:=by simpa using b
   have a:oQ i=true:=by simpa using a
   unfold oQ at a;have d:=of_decide_eq_true (Bool.and_eq_true_iff.1 a).1;exact ⟨d,b⟩
theorem K8 {i c:Int} (h:59<i):f7 i c=2:=by unfold f7;rw [if_pos];unfold oQ;rw [decide_eq_false (by omega)];rfl
theorem OG {i c:Int} (h:f7 i c=0):jg .u64 (ie .u64 (IntKind.u64.wrap i) 8) (IntKind.u64.wrap (IntKind.i64.wrap (c+1)))=i * 256+(c+1):=by
 obtain ⟨⟨f,g⟩,j,k⟩:=uY h;rw [bC (x:=c+1) (by omega) (by omega),jO (x:=c+1) (by omega) (by omega),jO (x:=i) (by omega) (by omega)];have b:ie .u64 i 8=i * 256:=by show IntKind.u64.wrap (i * 2 ^ 8)=_;have:(2:Int) ^ 8=256:=rfl;rw [this];exact jO (by omega) (by omega)
 rw [b];obtain ⟨n,rfl⟩:=p3 (show 0<=i by omega);obtain ⟨m,hm⟩:=p3 (show 0<=c+1 by omega);rw [hm];have d:(n:Int) * 256=((n * 256:Nat):Int):=(Int.natCast_mul n 256).symm;rw [d,u5 _ _ (by omega) (by omega)];have a:=vM n m 8 (by omega);have e:(2:Nat) ^ 8=256:=rfl;rw [e] at a;rw [a];exact Int.natCast_add _ _
theorem A7 (w:ak) (x a b:Int):a9 141 [.int .i64 x,.int .i64 a,.int .i64 b] w λv w'=>v=.bool (decide (a<=x/\x<=b))/\w'=w:=by
 refine bc Tryz.func141 ?_;rw [Gd];refine a8 (λh=>⟨?_,rfl⟩) (λh=>⟨?_,rfl⟩)
 ·have:a<=x:=h;simp [this]
 ·have:¬ a<=x:=h;simp [this]
theorem OH (w:ak) (i:Int):a9 178 [.int .i64 i] w λv w'=>v=.bool (oQ i)/\w'=w:=by refine bc Tryz.func178 ?_;rw [HT];refine aC (A7 w i 1 59) ?_;rintro v w1 ⟨rfl,rfl⟩;unfold oQ;refine ⟨_,rfl,fX (λh=>⟨by rw [h];simp,rfl⟩) (λh=>⟨by rw [h];simp,rfl⟩)⟩
theorem J4 (w:ak) (c:Int):a9 158 [.int .i64 c] w λv w'=>v=.bool (decide (0<=c/\c<6))/\w'=w:=by refine bc Tryz.func158 ?_;rw [GC];refine aC (A7 w c 0 5) ?_;rintro v w1 ⟨rfl,rfl⟩;refine ⟨_,rfl,?_,rfl⟩;congr 1;rw [decide_eq_decide];omega
abbrev Nk (w:ak) (i c:Int):cB:=λx w'=>x=.tuple #[.int .u64 (gv i c),.int .i64 (f7 i c)]/\w'=w
theorem K9 {i c:Int} (h:oQ i=false):gv i c=0/\f7 i c=2:=by have e:f7 i c=2:=if_pos h;refine ⟨?_,e⟩;unfold gv;rw [if_neg (by rw [e];omega)]
theorem K_ {i c:Int} (h:oQ i=true) (a:¬ (0<=c/\c<6)):gv i c=0/\f7 i c=1:=by
 have e:f7 i c=1:=by unfold f7;rw [if_neg (by rw [h];simp),if_pos a]
 refine ⟨?_,e⟩;unfold gv;rw [if_neg (by rw [e];omega)]
theorem D1 {i c:Int} (h:oQ i=true) (a:0<=c/\c<6):f7 i c=0:=by unfold f7;rw [if_neg (by rw [h];simp),if_neg (λe=>e a)]
theorem yO {i c:Int} (h:f7 i c=0):gv i c=i * 256+(c+1):=if_pos h
theorem vR (w:ak) (i c:Int):a9 128 [.int .i64 i,.int .i64 c] w (Nk w i c):=by
 refine bc Tryz.func128 ?_;rw [Is];refine aC (OH w i) ?_;rintro v w1 ⟨rfl,rfl⟩;refine ⟨_,rfl,ev (λd=>?_) (λf=>?_)⟩
 ·obtain ⟨a,b⟩:=K9 (c:=c) d;exact ⟨by rw [a,b],rfl⟩
 refine aC (J4 w1 c) ?_;rintro v h ⟨rfl,rfl⟩;refine ⟨_,rfl,ev (λd=>?_) (λg=>?_)⟩
 ·obtain ⟨a,b⟩:=K_ f (of_decide_eq_false d);exact ⟨by rw [a,b],rfl⟩
 ·have e:=D1 f (of_decide_eq_true g);exact ⟨by rw [OG e,yO e,e],rfl⟩
abbrev J5 (w:ak) (t:Int):cB:=λx w'=>x=.tuple #[.int .i64 (kE t),.int .i64 (pu t),.bool (mK t)]/\w'=w
theorem C1 {t:Int} (h:f7 (t / 256) (t % 256 - 1)≠0):kE t=0/\pu t=0/\mK t=false:=⟨if_neg h,if_neg h,decide_eq_false h⟩
theorem A8 {t:Int} (h:f7 (t / 256) (t % 256 - 1)=0):kE t=t / 256/\pu t=t % 256 - 1/\mK t=true:=⟨if_pos h,if_pos h,decide_eq_true h⟩
theorem O4 {t:Int} (a:ca t):db .u64 t 8=t / 256:=by show Int.fdiv t 256=_;rw [va _ (by decide)]
theorem Nl (w:ak):a9 198 [.int .i64 8] w λv w'=>v=.int .u64 255/\w'=w:=by refine bc Tryz.func198 ?_;rw [HR];exact ⟨by decide,by rfl,rfl⟩
theorem Hw (w:ak) {t:Int} (f:ca t):a9 177 [.int .u64 t] w (J5 w t):=by
 have j:=f.1;have k:=f.2;refine bc Tryz.func177 ?_;rw [Vm];rw [O4 f];refine a8 (λh=>?_) (λh=>?_)
 ·refine aC (Nl w) ?_;rintro v w1 ⟨rfl,rfl⟩;refine ⟨_,rfl,?_⟩;have i:fx .u64 t 255=t % 256:=A4 j k 8 (by omega);dsimp only;rw [i,bC (x:=t / 256) (by omega) (by omega),bC (x:=t % 256) (by omega) (by omega),bC (x:=t % 256 - 1) (by omega) (by omega)];refine aC (vR w1 (t / 256) (t % 256 - 1)) ?_;rintro v l ⟨rfl,rfl⟩;refine ⟨_,_,rfl,dw (λhe=>?_) (λhe=>?_)⟩
  ·obtain ⟨a,b,c⟩:=C1 he;exact ⟨by rw [a,b,c],rfl⟩
  ·obtain ⟨a,b,c⟩:=A8 he;rw [yO he];refine dw (λe=>absurd (by omega) e) (λ_=>⟨by rw [a,b,c],rfl⟩)
 ·have d:f7 (t / 256) (t % 256 - 1)=2:=K8 (by have h:¬ t / 256<=59:=h;omega);obtain ⟨a,b,c⟩:=C1 (t:=t) (by rw [d];omega);refine aC (vR w 0 0) ?_;rintro v l ⟨rfl,rfl⟩;have g:f7 0 0=2:=by decide
  refine ⟨_,_,rfl,dw (λhe=>⟨by rw [a,b,c],rfl⟩) (λhe=>absurd (g.symm.trans he) (by decide))⟩
structure b3 where
 a1:Int
 inc:Int
 lines:Int
 v:jf
 dead:Int
 dS:Int
 prev:Int
def b3.tail (j:b3):Int:=
 if j.lines<98\/256<j.lines then 18 else if j.dead=j.a1/\j.dS≠j.inc then 1
 else if j.dead≠j.a1/\(j.dS<2\/60<j.dS\/Int.tmod j.dS 2≠0) then 2
 else if j.prev≠0/\(mK j.prev=false\/pu j.prev=j.a1/\j.inc<=kE j.prev\/pu j.prev=j.dead/\j.dS<=kE j.prev) then 1 else 0
def b3.valid (j:b3):Int:=
 if f7 j.inc j.a1≠0 then f7 j.inc j.a1 else if j.dead<0\/6<=j.dead then 1 else if j.v.valid 5≠0 then j.v.valid 5 else j.tail
structure ri (w:ak) (r:dt) (j:b3):Prop where
 a1:r.Client=j.a1
 inc:r.hy=j.inc
 lines:r.gw=j.lines
 view:∃ M,gd M w r.View j.v
 dead:r.eO=j.dead
 dS:r.fv=j.dS
 prev:r.g8=j.prev
 u64:ca r.g8
theorem ri.new {w w':ak} {r:dt} {j:b3} (h:ri w r j) (a:ai w w'):ri w' r j:=⟨h.a1,h.inc,h.lines,h.view.imp λ_ h=>h.new a,h.dead,h.dS,h.prev,h.u64⟩
end
end Go.Proofs.YtmkljjbioomepaaGreat
