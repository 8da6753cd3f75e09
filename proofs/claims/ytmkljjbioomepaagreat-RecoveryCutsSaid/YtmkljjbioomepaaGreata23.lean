import Derived.Test.YtmkljjbioomepaaGreata21
import Derived.Test.YtmkljjbioomepaaGreata22
set_option linter.all false
namespace Go.Proofs.YtmkljjbioomepaaGreat
open Go.Proofs.Tryz Go.b8
section
def zb (j:eP):List bn:=Ch j (iR j.bw+8) (je j.seq j.writes)
def zc (j:eP):List bn:=Ch j (iR j.bw) [j7 j.seq]
structure Fit (vs:List bn) (ds:List a_):Prop where
 len:ds.length=vs.length
 each:∀ (q:Nat) (v:bn) (d:a_),vs[q]?=some v->ds[q]?=some d->d.code=0/\(d.words.length:Int)=v.v.ow
theorem Xf:∀ {ds:List a_},(∀ d ∈ ds,d.code=0)->mL ds=0
 | [],_=>rfl
 |d::ds,h=>by unfold mL;rw [if_pos (h d iA)];exact Xf λx ao=>h x (jz _ ao)
theorem Fit.ao8 {vs:List bn} {ds:List a_} (h:Fit vs ds):mL ds=0:=Xf λd aC=>by
 obtain ⟨q,aM⟩:=hn.1 aC;have aK:=dy aM;have hR:q<vs.length:=by rw [<-h.len];exact aK
 exact (h.each q vs[q] d (cp hR) aM).1
theorem Fit.r3 {vs:List bn} {ds:List a_} (h:Fit vs ds):Go.Proofs.YtmkljjbioomepaaGreat.r3 vs ds=true:=by unfold Go.Proofs.YtmkljjbioomepaaGreat.r3;rw [iz,decide_eq_true_eq,lM];refine ⟨h.len.symm,λp ar=>?_⟩;obtain ⟨q,aM⟩:=hn.1 ar;obtain ⟨af,al⟩:=WW.1 aM;obtain ⟨bs,bI⟩:=h.each q p.1 p.2 af al;unfold Gx;rw [if_pos bs];exact decide_eq_true bI
theorem V4 {vs:List bn} (h:vs≠[]) (lr:Int):dz [] vs lr=⟨false,[],(0,0),[],some vs,false⟩:=by
 have au:vs.length≠0:=λe=>h (zh.1 e)
 have ak:batch [] vs=⟨[],false,[],some vs,false⟩:=by unfold batch;rw [if_neg au]
 unfold dz;rw [ak];rfl
theorem Wu {vs:List bn} {d:List a_} (G:List (List a_)) (aw:vs≠[]) (h:Fit vs d) (lr:Int):dz (d::G) vs lr=⟨true,d,(0,0),G,none,false⟩:=by
 have au:vs.length≠0:=λe=>aw (zh.1 e)
 have ak:batch (d::G) vs=⟨d,true,G,none,false⟩:=by unfold batch;rw [if_neg au];simp only [h.r3,if_true]
 unfold dz;rw [ak];simp only [h.ao8];rfl
theorem Xz (G:List (List a_)) (lr:Int):dz G [] lr=⟨true,[],(0,0),G,none,false⟩:=by have ak:batch G []=⟨[],true,G,none,false⟩:=if_pos rfl;unfold dz;rw [ak];rfl
set_option linter.unusedSectionVars false
section
variable {j:eP} (aw:j.valid=0) (ig:j.writes≠[])
include aw ig
theorem ai5 (G:List (List a_)):F1 j G=dz G (zb j) 1:=by unfold F1 yL zb;rw [if_neg ig]
theorem ai6 (G:List (List a_)):IM j G=dz G (zc j) 2:=by unfold IM yL zc;rw [if_neg ig]
theorem akb (G:List (List a_)):yc j G=dz G (nJ j) 3:=by unfold yc;rw [if_neg ig]
theorem amm:f9 j≠[]:=by
 unfold f9;cases h:j.writes with
 |nil=>exact absurd h ig
 |cons p l=>simp
theorem amn {D:List a_} (fs:Fit (f9 j) D) (ab:ov (ou j) D=false) (G:List (List a_)):rB j (D::G)=⟨true,[],(0,0),G,none,false⟩:=by unfold rB;rw [Wu G (amm aw ig) fs];simp only [ab,if_true];rfl
def aCZ (j:eP) (D:List a_):List bn:=mQ (f9 j) (ou j) D
end
end
section
def rD (n:Nat):pH:=⟨0,stM n⟩
theorem jA.oT {A:bB} {aG:Nat->Tag} {w0 w u:av} {a3:Nat} {L B:bB} {f0:Nat->Tag} {X rS:cF} (t:jA A aG w a3 L u B f0 X) (cM:c4 A aG w a3 rS) (aj:ai w0 w) (fB:∀ k,A k->w0.heap.size<=k):ai w0 u:=
 aj.trans t.next.aO λk J ab=>by have:=fB k (cM.iL k ab);omega
theorem Y' {A:bB} {w u:av} {a:ax} {xs:aH} (aA:bW w a xs) (aj:ai w u) (fB:∀ k,A k->w.heap.size<=k):Bd A u a xs:=by
 refine ⟨aA.new aj,?_⟩;by_cases ao:xs=[]
 ·exact .inl ao
 ·refine .inr ?_;cases a with
  |none=>trivial
  |some a=>intro h;have:=fB _ h;have:=aA.lt ao;omega
namespace iH
def conv:Conv:=⟨eP,Int×Int,g1⟩
structure Dc (A:bB) (w:av) (r:fW) (j:eP):Prop where
 at_:CR w r j
 view:ky A w r.View j.v
 aE1:(ZR j.reads).flatten=[]\/kR A r.Reads
 aE_:(nR j.writes).flatten=[]\/kR A r.hO
 uB:Bc j
theorem ky.aO {A A':bB} {w w':av} {r:e3} {v:pH} (h:ky A w r v) (J:ay A w w') (c1:∀ k,k<w.heap.size->A' k->A k):ky A' w' r v:=
 ⟨h.num,h.len,h.cap,h.rd.aO J h.off,kR.aO h.rd h.off c1,h.small⟩
theorem Dc.aO {A A':bB} {w w':av} {r:fW} {j:eP} (h:Dc A w r j) (J:ay A w w') (c1:∀ k,k<w.heap.size->A' k->A k):Dc A' w' r j:=by obtain ⟨bc,aw,aA,hw,aC⟩:=h;have d_:=ky.aO aw J c1;exact ⟨⟨bc.bw,bc.seq,bc.lines,⟨A',d_⟩,bc.rd.aO J aA,bc.len,bc.hH,⟨bc.cO.rd.aO J hw,bc.cO.len,bc.cO.hH,bc.cO.u64⟩⟩,d_,kR.aO bc.rd aA c1,kR.aO bc.cO.rd hw c1,aC⟩
end iH
end
section
open iH
def bV (m:Nat):bp:=⟨(m:Int),1,true⟩
def dV (m:Nat) (a:Int) (ws:bR):bn:=⟨2,(m:Int),a,0,0,0,ws,1,1⟩
def NC (a old new:Int):bn:=⟨3,0,a,0,old,new,[],1,1⟩
def VP (a:Int):bn:=⟨1,0,a,1,0,0,[],1,1⟩
theorem zd {n L m:Nat} {a:Int} {ws:bR} (aj:n<=5) (hm:m<n) (bE:1<=L/\L<=256) (bc:24<=a) (af:1<=ws.length) (al:ws.length<=1000) (aL:a+ws.length<=L * 8):n7 n L (dV m a ws):=by
 refine ⟨λk J g_=>?_,⟨by show (0:Int)<=m;omega,by show (m:Int)<n;omega⟩,rfl,rfl⟩;have ab:(dV m a ws).v.count=ws.length:=rfl;have aD:(dV m a ws).v.inside k L=true:=by unfold a0.inside a0.eU a0.ft;rw [ab];apply decide_eq_true;show 1<=k/\k<=5/\1<=(L:Int)/\(L:Int)<=256/\0<=(m:Int)/\(m:Int)<k/\0<=a/\a<(L:Int) * 8/\(ws.length:Int)<=1024/\(a+ws.length - 1) / 8<(L:Int)/\(a+ws.length - 1) / 8 - a / 8<128;omega
 unfold a0.valid;rw [ab,if_neg (by omega),aD,if_neg (by simp),if_neg];unfold a0.eU a0.ft a0.last;rw [ab];show ¬ (a / 8<=(if (2:Int)=1 then 3 else 2)/\(if (2:Int)=1 then 3 else 2)<(a+ws.length - 1) / 8);rw [if_neg (by omega)];omega
structure Env where
 n:Nat
 L:Nat
 base:Nat->Nat->Int
 iZ:Nat->Int
 ids:eI
 bG:Nat->eP
 aE2:Bool
def Env.on (E:Env) (i:Nat):Prop:=i ∈ E.ids
structure hx (E:Env) (i:Nat) (j:eP):Prop where
 fE:j.bw=(i:Int)
 i6:i<6
 valid:j.valid=0
 view:j.v=rD E.n
 some_:j.writes≠[]
 hH:j.writes.length<=12
 Qg:j.reads.length<=24
 line:∀ p ∈ j.writes,∃ l:Nat,p.b5=(l:Int)/\96<=l/\l<E.L
 aE0:∀ s ∈ j.reads,∃ l:Nat,s.b5=(l:Int)/\96<=l/\l<E.L
 uniq:∀ p ∈ j.writes,∀ q ∈ j.writes,p.b5=q.b5->p=q
 nodup:(j.writes.map (·.b5)).Nodup
 head:∀ p ∈ j.writes,p.Head=E.base p.b5.toNat 0
 avg:∀ p ∈ j.writes,∀ k:Nat,k<6->ii p.Head k≠p.Head/\(ii p.Head k=ii p.Head i->k=i)
 next:∀ p ∈ j.writes,t_ p.Head≠p.Head
 aEZ:∀ s ∈ j.reads,s.Head=E.base s.b5.toNat 0
 aEY:∀ s ∈ j.reads,∀ p ∈ j.writes,s.b5≠p.b5
structure C3 (E:Env):Prop where
 n:1<=E.n/\E.n<=5
 L:98<=E.L/\E.L<=256
 ids:E.ids.Nodup
 cH:∀ i,E.on i->hx E i (E.bG i)
section
variable {E:Env} {i:Nat} {j:eP}
theorem hx.mem (h:hx E i j):j.v.mem=(List.range E.n).map bV:=by rw [h.view];rfl
theorem hx.num (h:hx E i j):j.v.number=0:=by rw [h.view];rfl
theorem hx.cI (h:hx E i j) (aj:1<=E.n):Hk j=bV 0:=by unfold Hk;rw [h.mem];obtain ⟨k,J⟩:∃ k,E.n=k+1:=⟨E.n - 1,by omega⟩;rw [J,H'];rfl
theorem hx.tail (h:hx E i j):j.v.mem.tail=(List.range (E.n - 1)).map λm=>bV (m+1):=by
 rw [h.mem];cases J:E.n with
 |zero=>rfl
 |succ k=>rw [H'];simp
theorem hx.log (h:hx E i j) (a:Int) (ws:bR):Ch j a ws=(List.range E.n).map λm=>dV m a ws:=by unfold Ch;rw [h.mem,h.num,FE];rfl
theorem hx.kS (h:hx E i j) (aj:1<=E.n) (p:a6):uy j p=NC (p.b5 * 8) p.Head (ii p.Head i):=by unfold uy;rw [h.num,h.cI aj,h.fE];rfl
theorem hx.read (h:hx E i j) (aj:1<=E.n) (s:h3):zo j s=VP (s.b5 * 8):=by unfold zo;rw [h.num,h.cI aj];rfl
def jO (m:Nat) (p:a6):bn:=dV m (p.b5 * 8) (oE p)
def zH (i:Nat) (seq:Int) (m:Nat):bn:=dV m (32+(i:Int)) [seq]
theorem hx.g6 (h:hx E i j) (m:Nat) (p:a6):qa j (bV m) p=jO m p:=by unfold qa;rw [h.num];rfl
theorem hx.clock (h:hx E i j) (m:Nat):tW j (bV m)=zH i j.seq m:=by unfold tW;rw [h.num,h.fE];rfl
theorem hx.aes (h:hx E i j) (aj:1<=E.n):f9 j=(j.writes.map λp=>NC (p.b5 * 8) p.Head (ii p.Head i))++j.reads.map λs=>VP (s.b5 * 8):=by
 unfold f9;congr 1
 ·exact Ij λp _=>h.kS aj p
 ·exact Ij λs _=>h.read aj s
theorem hx.aaS (h:hx E i j):C6 j=((List.range (E.n - 1)).map λm=>(j.writes.map (jO (m+1))++[zH i j.seq (m+1)])).flatten:=by
 unfold C6;rw [h.tail,FE];congr 1;refine Ij λm _=>?_
 show rp j (bV (m+1))=_;unfold rp;rw [if_neg h.some_,h.clock];congr 1;exact Ij λp _=>h.g6 (m+1) p
theorem hx.abb (h:hx E i j) (aj:1<=E.n):nJ j=zH i j.seq 0::j.writes.map (jO 0):=by have hm:=h.mem;unfold nJ;obtain ⟨k,J⟩:∃ k,E.n=k+1:=⟨E.n - 1,by omega⟩;rw [J,H'] at hm;rw [hm];simp only [kQ];rw [h.clock];congr 1;exact Ij λp _=>h.g6 0 p
theorem hx.Sz (h:hx E i j):zb j=(List.range E.n).map λm=>dV m (56+120 * (i:Int)) (je j.seq j.writes):=by
 unfold zb;rw [h.log,h.fE];have e:iR (i:Int)+8=56+120 * (i:Int):=by unfold iR;omega
 rw [e]
theorem hx.Vs (h:hx E i j):zc j=(List.range E.n).map λm=>dV m (48+120 * (i:Int)) [j7 j.seq]:=by unfold zc;rw [h.log,h.fE];rfl
end
end
section
open iH
structure Nl (L:Nat) (fA:Bool) (n:bt):Prop where
 up:n.down=false
 len:n.words.length=L * 8
 key:n.get 0=1
 hd:n.get 1=1
 d0:n.get 24=if fA=true then 2 else 1
 gP:∀ c:Nat,1<=c->c<6->n.get (24+c)=1
theorem ZA {N L:Nat} {fA:Bool} {n:bt} (aj:Nl L fA n) (kE:N<=5) {x:bn} (ao:n7 N L x) {p:fx} {c:Nat} (ar:p.bw=c) (aD:p.inc=1) (ab:c<6):p.refusal x n=if x.v.cls=1/\x.v.Kind=1 then 0 else if fA=true/\c=0 then 5 else 0:=by
 unfold fx.refusal;rw [if_neg (by rw [aj.up];simp),aj.len,show L * 8 / 8=L by omega,if_neg (by rw [ao.valid 5 (by omega) (by omega)];simp)];have e:(24+p.bw).toNat=24+c:=by rw [ar];omega
 rw [e,aj.key,aj.hd,aD];unfold a0.check;split
 ·rfl
 have ak:¬ (x.v.dJ<0\/x.v.dJ≠1\/x.v.Key≠1):=by show ¬ (x.hd<0\/x.hd≠1\/x.key≠1);rw [ao.key,ao.hd];omega
 have bg:∀ NP:Int,(if (1:Int)<0\/(1:Int)<NP then (5:Int) else if x.v.cls=1 then 0 else if x.v.dJ<0\/x.v.dJ≠1\/x.v.Key≠1 then 5 else 0)=if 1<NP then 5 else 0:=λNP=>by
  rw [if_neg ak];by_cases aC:1<NP
  ·rw [if_pos (.inr aC),if_pos aC]
  ·rw [if_neg (by omega),if_neg aC];split<;>rfl
 rw [bg];by_cases aN:c=0
 ·subst aN;rw [vp,aj.d0];cases fA<;>rfl
 ·rw [aj.gP c (by omega) ab,if_neg (by decide),if_neg (λe=>aN e.2)]
theorem Bh.ba {a k L:Nat} {fA:Bool} {n n':bt} (h:Bh a k n n') (aj:Nl L fA n) (bc:30<=a):Nl L fA n':=
 ⟨h.down.trans aj.up,h.len.trans aj.len,(h.get 0 (by omega)).trans aj.key,(h.get 1 (by omega)).trans aj.hd,by rw [h.get 24 (by omega)];exact aj.d0,λc af ab=>by rw [h.get (24+c) (by omega)];exact aj.gP c af ab⟩
abbrev cA (E:Env):List a6:=(E.bG 0).writes
abbrev fl (E:Env):Int:=(E.bG 0).seq
abbrev lK (E:Env):bR:=je (fl E) (cA E)
abbrev n3 (E:Env):Int:=j7 (fl E)
abbrev b9 (p:a6):Nat:=p.b5.toNat
structure di (E:Env):Prop where
 e:C3 E
 one:E.ids=[0]
 rd:(E.bG 0).reads=[]
 avf:∀ p ∈ cA E,ii p.Head 0≠t_ p.Head
 fg:jD (fl E) (cA E) E.L=0
 uB:Bc (E.bG 0)
 u64:∀ p ∈ cA E,dp p.Head
 iZ:0<=E.iZ 0/\E.iZ 0<fl E
 dj:∀ l,96<=l->l<E.L->E.base l 0 % 2=0
theorem di.cH {E:Env} (h:di E):hx E 0 (E.bG 0):=h.e.cH 0 (by unfold Env.on;rw [h.one];simp)
theorem di.seq {E:Env} (h:di E):1<=fl E/\fl E<1073741824:=by obtain ⟨_,a,_⟩:=pM h.fg;exact ⟨a.1,a.2.1⟩
theorem di.pl {E:Env} (h:di E) {p:a6} (ar:p ∈ cA E):96<=b9 p/\b9 p<E.L/\p.b5=(b9 p:Int):=by
 obtain ⟨l,e,a,b⟩:=h.cH.line p ar;have:b9 p=l:=by show p.b5.toNat=l;rw [e];rfl
 rw [this];exact ⟨a,b,e⟩
theorem di.inj {E:Env} (h:di E) {p q:a6} (ar:p ∈ cA E) (aM:q ∈ cA E) (e:b9 p=b9 q):p=q:=
 h.cH.uniq p ar q aM (by rw [(h.pl ar).2.2,(h.pl aM).2.2,e])
theorem di.ux {E:Env} (h:di E):(lK E).length=3+9 * (cA E).length/\(cA E).length<=12:=⟨Cm _ _,h.cH.hH⟩
structure cd where
 cO:Nat->Nat->Nat
 eo:Nat->Bool
 gq:Nat->Bool
 hF:Nat->Bool
 fA:Nat->Bool
 gU:Int
def Df (E:Env) (p:a6) (s:Nat) (x:bt):Prop:=match s with
 | 0=>∀ k,k<8->x.get (b9 p * 8+k)=E.base (b9 p) k
 | 1=>x.get (b9 p * 8)=ii p.Head 0/\∀ k,1<=k->k<8->x.get (b9 p * 8+k)=E.base (b9 p) k
 | _=>∀ k,k<8->x.get (b9 p * 8+k)=(oE p).getD k 0
structure Mem (E:Env) (A:cd) (m:Nat) (x:bt):Prop where
 ba:Nl E.L (A.fA m) x
 cO:∀ p ∈ cA E,Df E p (A.cO m (b9 p)) x
 ld:∀ l:Nat,96<=l->l<E.L->(∀ p ∈ cA E,b9 p≠l)->∀ k,k<8->x.get (l * 8+k)=E.base l k
 et:∀ c:Nat,1<=c->c<6->x.get (32+c)=E.iZ c
 gq:x.get 32=if A.gq m=true then fl E else E.iZ 0
 eo:x.get 48=if A.eo m=true then n3 E else 0
 gU:m=0->x.get 49=A.gU
 hF:A.hF m=true->∀ k,k<(lK E).length->x.get (56+k)=(lK E).getD k 0
structure qi (E:Env) (A:cd) (cm:List bt):Prop where
 len:cm.length=E.n
 mem:∀ (m:Nat) (x:bt),cm[m]?=some x->Mem E A m x
structure iI (E:Env) (A:cd):Prop where
 eU:∀ m,m<E.n->∀ p ∈ cA E,A.cO m (b9 p)<=2/\(1<=m->A.cO m (b9 p)≠1)
 l2:∀ m,m<E.n->A.eo m=true->(∀ cW,cW<E.n->A.hF cW=true)/\∀ p ∈ cA E,A.cO 0 (b9 p)≠0
 oS:∀ m,m<E.n->∀ p ∈ cA E,A.cO m (b9 p)=2->∀ cW,cW<E.n->A.eo cW=true
 wz:∀ m,m<E.n->A.gq m=true->∀ cW,cW<E.n->A.eo cW=true
 u2:∀ p ∈ cA E,A.cO 0 (b9 p)=2->A.gq 0=true
 sy:A.gq 0=true->∀ m,1<=m->m<E.n->A.gq m=true
 tG:∀ m,1<=m->m<E.n->A.gq m=true->∀ p ∈ cA E,A.cO m (b9 p)=2
def nD (E:Env) (A:cd):Prop:=∀ m,m<E.n->A.eo m=true
def ku (E:Env) (A:cd):Prop:=∀ m,m<E.n->A.eo m=false
def n6 (E:Env) (A:cd):Prop:=∀ m,m<E.n->A.hF m=true
def pD (E:Env) (A:cd):Prop:=∀ m,m<E.n->A.fA m=true
def C2 (E:Env) (A:cd):Prop:=∀ m,1<=m->m<E.n->A.gq m=true
def zq (E:Env) (A:cd):Prop:=nD E A/\A.gq 0=true/\∀ p ∈ cA E,A.cO 0 (b9 p)=2
def FZ (E:Env) (A:cd):Prop:=pD E A/\ku E A/\∀ p ∈ cA E,A.cO 0 (b9 p)=0
structure fN (E:Env) (A A':cd):Prop where
 eo:∀ m,A.eo m=true->A'.eo m=true
 gq:∀ m,A.gq m=true->A'.gq m=true
 hF:∀ m,A.hF m=true->A'.hF m=true
 fA:∀ m,A.fA m=true->A'.fA m=true
 cO:∀ m l,A.cO m l=2->A'.cO m l=2
theorem fN.refl (E:Env) (A:cd):fN E A A:=⟨λ_ h=>h,λ_ h=>h,λ_ h=>h,λ_ h=>h,λ_ _ h=>h⟩
theorem fN.am {E:Env} {A A':cd} (h:fN E A A') (g:nD E A):nD E A':=λm hm=>h.eo m (g m hm)
theorem fN.lb {E:Env} {A A':cd} (h:fN E A A') (g:n6 E A):n6 E A':=λm hm=>h.hF m (g m hm)
theorem fN.cf {E:Env} {A A':cd} (h:fN E A A') (g:pD E A):pD E A':=λm hm=>h.fA m (g m hm)
theorem fN.Dy {E:Env} {A A':cd} (h:fN E A A') (g:C2 E A):C2 E A':=λm af hm=>h.gq m (g m af hm)
theorem fN.aba {E:Env} {A A':cd} (h:fN E A A') (g:zq E A):zq E A':=⟨h.am g.1,h.gq 0 g.2.1,λp ar=>h.cO 0 _ (g.2.2 p ar)⟩
def cd.lJ (A:cd) (m l s:Nat):cd:={ A with cO:=λcW l'=>if cW=m/\l'=l then s else A.cO cW l' }
def cd.p_ (A:cd) (m:Nat):cd:={ A with eo:=λcW=>if cW=m then true else A.eo cW }
def cd.tX (A:cd) (m:Nat):cd:={ A with gq:=λcW=>if cW=m then true else A.gq cW }
def cd.CC (A:cd) (m:Nat):cd:={ A with hF:=λcW=>if cW=m then true else A.hF cW }
def cd.AH (A:cd) (m:Nat):cd:={ A with fA:=λcW=>if cW=m then true else A.fA cW }
def cd.E3 (A:cd) (t:Int):cd:={ A with gU:=t }
section
variable {E:Env} {A:cd} {cm:List bt} {m:Nat} {x k5:bt}
theorem qi.jh (h:qi E A cm) {A':cd} (ao:cm[m]?=some x) (hm:Mem E A' m k5) (aq:∀ cW,cW≠m->∀ y,Mem E A cW y->Mem E A' cW y):qi E A' (cm.set m k5):=by
 refine ⟨by simpa using h.len,λcW y az=>?_⟩;by_cases e:m=cW
 ·subst e;rw [qe (dy ao)] at az;cases az;exact hm
 ·rw [nC e] at az;exact aq cW (λbg=>e bg.symm) y (h.mem cW y az)
theorem Mem.same (h:Mem E A m x) {A':cd} (af:∀ p ∈ cA E,A'.cO m (b9 p)=A.cO m (b9 p)) (al:A'.eo m=A.eo m) (aL:A'.gq m=A.gq m) (ca:A'.hF m=A.hF m) (c9:A'.fA m=A.fA m) (e8:m=0->A'.gU=A.gU):Mem E A' m x:=
 ⟨by rw [c9];exact h.ba,λp ar=>by rw [af p ar];exact h.cO p ar,h.ld,h.et,by rw [aL];exact h.gq,by rw [al];exact h.eo,λe=>by rw [e8 e];exact h.gU e,by rw [ca];exact h.hF⟩
theorem Df.kD {p:a6} {s a k:Nat} (h:Df E p s x) (aJ:Bh a k x k5) (aC:a+k<=b9 p * 8\/b9 p * 8+8<=a):Df E p s k5:=by
 have g:∀ hU,hU<8->k5.get (b9 p * 8+hU)=x.get (b9 p * 8+hU):=λhU J=>aJ.get _ (by omega)
 unfold Df at h ⊢;split at h
 ·exact λhU J=>by rw [g hU J];exact h hU J
 ·exact ⟨by have:=g 0 (by omega);rw [vp] at this;rw [this];exact h.1,λhU af J=>by rw [g hU J];exact h.2 hU af J⟩
 ·exact λhU J=>by rw [g hU J];exact h hU J
theorem Mem.low (aI:di E) (h:Mem E A m x) {a k:Nat} (aJ:Bh a k x k5) (bc:30<=a) (J:a+k<=768) {A':cd} (dH:∀ p ∈ cA E,A'.cO m (b9 p)=A.cO m (b9 p)) (gn:A'.fA m=A.fA m)
  (BK:38<=a\/a+k<=33) (vW:k5.get 32=if A'.gq m=true then fl E else E.iZ 0) (T_:k5.get 48=if A'.eo m=true then n3 E else 0) (pW:m=0->k5.get 49=A'.gU) (BH:A'.hF m=true->∀ k,k<(lK E).length->k5.get (56+k)=(lK E).getD k 0):Mem E A' m k5:=
 ⟨by rw [gn];exact aJ.ba h.ba bc,λp ar=>by rw [dH p ar];exact (h.cO p ar).kD aJ (by have:=aI.pl ar;omega),λl af al aL hU dQ=>by rw [aJ.get _ (by omega)];exact h.ld l af al aL hU dQ,λc af ab=>by rw [aJ.get _ (by omega)];exact h.et c af ab,vW,T_,pW,BH⟩
theorem Mem.g6 (aI:di E) (h:Mem E A m x) {p:a6} (ar:p ∈ cA E) (aJ:Bh (b9 p * 8) 8 x k5) {s:Nat} (aX:Df E p s k5):Mem E (A.lJ m (b9 p) s) m k5:=by
 have au:=aI.pl ar;refine ⟨aJ.ba h.ba (by omega),λq aM=>?_,λl af al aL k J=>?_,λc af ab=>by rw [aJ.get _ (by omega)];exact h.et c af ab,by rw [aJ.get _ (by omega)];exact h.gq,by rw [aJ.get _ (by omega)];exact h.eo,λe=>by rw [aJ.get _ (by omega)];exact h.gU e,λak k J=>?_⟩
 ·show Df E q (if m=m/\b9 q=b9 p then s else A.cO m (b9 q)) k5;by_cases e:b9 q=b9 p
  ·rw [if_pos ⟨rfl,e⟩,aI.inj aM ar e];exact aX
  ·rw [if_neg (λg=>e g.2)];exact (h.cO q aM).kD aJ (by omega)
 ·have:=aL p ar;rw [aJ.get _ (by omega)];exact h.ld l af al aL k J
 ·have:=aI.ux;rw [aJ.get _ (by omega)];exact h.hF ak k J
end
end
section
open iH
section
variable {E:Env} {A:cd} {m:Nat} {p:a6}
theorem iI.aoZ (h:iI E A) (m:Nat):iI E (A.CC m):=by
 obtain ⟨eU,l2,oS,wz,u2,sy,tG⟩:=h;refine ⟨eU,λk J e=>⟨λhU dQ=>?_,(l2 k J e).2⟩,oS,wz,u2,sy,tG⟩;have:=(l2 k J e).1 hU dQ;simp only [cd.CC];split
 ·rfl
 ·exact this
theorem iI.SF (h:iI E A) (m:Nat):iI E (A.AH m):=⟨h.eU,h.l2,h.oS,h.wz,h.u2,h.sy,h.tG⟩
theorem iI.tag (h:iI E A) (t:Int):iI E (A.E3 t):=⟨h.eU,h.l2,h.oS,h.wz,h.u2,h.sy,h.tG⟩
theorem iI.p2 (h:iI E A) {l s:Nat} (aN:s<=2) (af:1<=m->s≠1) (al:s=0->m=0->ku E A) (aL:s=2->nD E A) (c9:s=2->m=0->A.gq 0=true) (i':1<=m->A.cO m l=2->s=2):iI E (A.lJ m l s):=by
 obtain ⟨eU,l2,oS,wz,u2,sy,tG⟩:=h;have e:∀ k q,(A.lJ m l s).cO k q=if k=m/\q=l then s else A.cO k q:=λ_ _=>rfl
 refine ⟨λk J p ar=>?_,λk J hm=>⟨(l2 k J hm).1,λp ar=>?_⟩,λk J p ar=>?_,wz,λp ar=>?_,sy,λk hk J ab p ar=>?_⟩
 ·rw [e];split
  ·rename_i g;rw [g.1];exact ⟨aN,af⟩
  ·exact eU k J p ar
 ·rw [e];split
  ·rename_i g;intro iN;have hm:A.eo k=true:=hm;rw [al iN g.1.symm k J] at hm;cases hm
  ·exact (l2 k J hm).2 p ar
 ·rw [e];split
  ·exact aL
  ·exact oS k J p ar
 ·rw [e];split
  ·rename_i g;exact λbg=>c9 bg g.1.symm
  ·exact u2 p ar
 ·rw [e];split
  ·rename_i g;have:=tG k hk J ab p ar;rw [g.1,g.2] at this;exact i' (by omega) this
  ·exact tG k hk J ab p ar
theorem iI.Lh (h:iI E A) (ak:n6 E A) (ar:∀ p ∈ cA E,A.cO 0 (b9 p)≠0) (m:Nat):iI E (A.p_ m):=by
 obtain ⟨eU,l2,oS,wz,u2,sy,tG⟩:=h;have up:∀ k,A.eo k=true->(A.p_ m).eo k=true:=λk J=>by simp only [cd.p_];split;rfl;exact J
 exact ⟨eU,λk J e=>⟨ak,ar⟩,λk J p ar e hU dQ=>up hU (oS k J p ar e hU dQ),λk J e hU dQ=>up hU (wz k J e hU dQ),u2,sy,tG⟩
theorem iI.Ji (h:iI E A) (bc:nD E A) (aN:m=0->C2 E A) (af:1<=m->∀ p ∈ cA E,A.cO m (b9 p)=2):iI E (A.tX m):=by
 obtain ⟨eU,l2,oS,wz,u2,sy,tG⟩:=h;have e:∀ k,(A.tX m).gq k=if k=m then true else A.gq k:=λ_=>rfl
 have up:∀ k,A.gq k=true->(A.tX m).gq k=true:=λk J=>by rw [e];split;rfl;exact J
 refine ⟨eU,l2,oS,λk J _=>bc,λp ar bg=>up 0 (u2 p ar bg),λab k hk J=>?_,λk hk J ab p ar=>?_⟩
 ·rw [e] at ab;by_cases g:0=m
  ·exact up k (aN g.symm k hk J)
  ·rw [if_neg g] at ab;exact up k (sy ab k hk J)
 ·rw [e] at ab;by_cases g:k=m
  ·rw [g];exact af (by omega) p ar
  ·rw [if_neg g] at ab;exact tG k hk J ab p ar
theorem MI {l s:Nat} (h:A.cO m l=2->s=2):fN E A (A.lJ m l s):=⟨λ_ h=>h,λ_ h=>h,λ_ h=>h,λ_ h=>h,λk q e=>by
 show (if k=m/\q=l then s else A.cO k q)=2;split
 ·rename_i g;rw [g.1,g.2] at e;exact h e
 ·exact e⟩
theorem Za:fN E A (A.p_ m):=⟨λk h=>by simp only [cd.p_];split;rfl;exact h,λ_ h=>h,λ_ h=>h,λ_ h=>h,λ_ _ h=>h⟩
theorem Zb:fN E A (A.tX m):=⟨λ_ h=>h,λk h=>by simp only [cd.tX];split;rfl;exact h,λ_ h=>h,λ_ h=>h,λ_ _ h=>h⟩
theorem amo:fN E A (A.CC m):=⟨λ_ h=>h,λ_ h=>h,λk h=>by simp only [cd.CC];split;rfl;exact h,λ_ h=>h,λ_ _ h=>h⟩
theorem amp:fN E A (A.AH m):=⟨λ_ h=>h,λ_ h=>h,λ_ h=>h,λk h=>by simp only [cd.AH];split;rfl;exact h,λ_ _ h=>h⟩
theorem Zc {t:Int}:fN E A (A.E3 t):=⟨λ_ h=>h,λ_ h=>h,λ_ h=>h,λ_ h=>h,λ_ _ h=>h⟩
end
section
variable {E:Env} {A:cd} {cm:List bt} {m:Nat} {x:bt}
theorem Mem.wr (h:Mem E A m x) (aI:di E) {a:Nat} {ws:bR} (au:a+ws.length<=E.L * 8):Bh a ws.length x (x.write a ws):=
 ⟨Xy (by rw [h.ba.len];exact au),rfl,λi aD=>by rw [Hw (by rw [h.ba.len];exact au),if_neg (by omega)]⟩
theorem di.wA {E:Env} (h:di E):784<=E.L * 8:=by have:=h.e.L;omega
theorem Mem.Lh (aI:di E) (h:Mem E A m x):Mem E (A.p_ m) m (x.write 48 [n3 E]):=by
 have ak:=aI.wA;have g:=Hw (n:=x) (a:=48) (ws:=[n3 E]) (by rw [h.ba.len];simp;omega);refine h.low aI (h.wr aI (by simp;omega)) (by omega) (by simp) (λ_ _=>rfl) rfl (.inl (by omega)) ?_ ?_ (λe=>?_) λak k J=>?_
 ·rw [g,if_neg (by simp)];exact h.gq
 ·rw [g,if_pos (by simp)];simp [cd.p_]
 ·rw [g,if_neg (by simp)];exact h.gU e
 ·rw [g,if_neg (by simp;omega)];exact h.hF ak k J
theorem Mem.azB (aI:di E) (h:Mem E A m x) (aN:A.eo m=false):Mem E A m (x.write 48 [0]):=by
 have ak:=aI.wA;have g:=Hw (n:=x) (a:=48) (ws:=[0]) (by rw [h.ba.len];simp;omega);refine h.low aI (h.wr aI (by simp;omega)) (by omega) (by simp) (λ_ _=>rfl) rfl (.inl (by omega)) ?_ ?_ (λe=>?_) λak k J=>?_
 ·rw [g,if_neg (by simp)];exact h.gq
 ·rw [g,if_pos (by simp),aN];simp
 ·rw [g,if_neg (by simp)];exact h.gU e
 ·rw [g,if_neg (by simp;omega)];exact h.hF ak k J
theorem Mem.Ji (aI:di E) (h:Mem E A m x):Mem E (A.tX m) m (x.write 32 [fl E]):=by
 have ak:=aI.wA;have g:=Hw (n:=x) (a:=32) (ws:=[fl E]) (by rw [h.ba.len];simp;omega);refine h.low aI (h.wr aI (by simp;omega)) (by omega) (by simp) (λ_ _=>rfl) rfl (.inr (by simp)) ?_ ?_ (λe=>?_) λak k J=>?_
 ·rw [g,if_pos (by simp)];simp [cd.tX]
 ·rw [g,if_neg (by simp)];exact h.eo
 ·rw [g,if_neg (by simp)];exact h.gU e
 ·rw [g,if_neg (by simp;omega)];exact h.hF ak k J
theorem Mem.new (aI:di E) (h:Mem E A m x) {p:a6} (ar:p ∈ cA E):Mem E (A.lJ m (b9 p) 2) m (x.write (b9 p * 8) (oE p)):=by
 have au:=aI.pl ar;refine h.g6 aI ar (h.wr aI (a:=b9 p * 8) (ws:=oE p) (by show b9 p * 8+8<=_;omega)) λk J=>?_
 rw [Hw (by rw [h.ba.len];show b9 p * 8+8<=_;omega),if_pos (by show b9 p * 8<=b9 p * 8+k/\b9 p * 8+k<b9 p * 8+8;omega)];congr 1;omega
theorem Mem.st (h:Mem E A m x) (aI:di E) {a:Nat} (bc:a<E.L * 8) (v:Int):Bh a 1 x { x with words:=x.words.set a v }/\∀ i,({ x with words:=x.words.set a v }:bt).get i=if i=a then v else x.get i:=by have g:=aml (n:=x) (a:=a) (by rw [h.ba.len];exact bc) v;exact ⟨⟨by simp,rfl,λi aD=>by rw [g,if_neg (by omega)]⟩,g⟩
theorem Mem.avh (aI:di E) (h:Mem E A m x) {p:a6} (ar:p ∈ cA E) (aN:A.cO m (b9 p)=0):Mem E (A.lJ m (b9 p) 1) m { x with words:=x.words.set (b9 p * 8) (ii p.Head 0) }:=by have au:=aI.pl ar;obtain ⟨aJ,g⟩:=h.st aI (a:=b9 p * 8) (by omega) (ii p.Head 0);have dH:=h.cO p ar;rw [aN] at dH;refine h.g6 aI ar ⟨aJ.len,aJ.down,λi aD=>aJ.get i (by omega)⟩ ⟨by rw [g,if_pos rfl],λk af J=>?_⟩;rw [g,if_neg (by omega)];exact dH k J
theorem Mem.vf (aI:di E) (h:Mem E A m x) {p:a6} (ar:p ∈ cA E) (aN:A.cO m (b9 p)=1):Mem E (A.lJ m (b9 p) 0) m { x with words:=x.words.set (b9 p * 8) p.Head }:=by
 have au:=aI.pl ar;obtain ⟨aJ,g⟩:=h.st aI (a:=b9 p * 8) (by omega) p.Head;have dH:=h.cO p ar;rw [aN] at dH;refine h.g6 aI ar ⟨aJ.len,aJ.down,λi aD=>aJ.get i (by omega)⟩ λk J=>?_
 by_cases e:k=0
 ·subst e;rw [g,if_pos (by omega)];exact aI.cH.head p ar
 ·rw [g,if_neg (by omega)];exact dH.2 k (by omega) J
theorem Mem.SF (aI:di E) (h:Mem E A m x):Mem E (A.AH m) m { x with words:=x.words.set 24 2 }:=by
 have ak:=aI.wA;obtain ⟨aJ,g⟩:=h.st aI (a:=24) (by omega) 2;have cU:∀ i,i≠24->({ x with words:=x.words.set 24 2 }:bt).get i=x.get i:=λi aD=>by rw [g,if_neg aD]
 refine ⟨⟨h.ba.up,aJ.len.trans h.ba.len,(cU 0 (by omega)).trans h.ba.key,(cU 1 (by omega)).trans h.ba.hd,by rw [g,if_pos rfl];simp [cd.AH],λc af ab=>by rw [cU _ (by omega)];exact h.ba.gP c af ab⟩,λp ar=>(h.cO p ar).kD aJ (by have:=aI.pl ar;omega),λl af al aL k J=>by rw [cU _ (by omega)];exact h.ld l af al aL k J,λc af ab=>by rw [cU _ (by omega)];exact h.et c af ab,by rw [cU _ (by omega)];exact h.gq,by rw [cU _ (by omega)];exact h.eo,λe=>by rw [cU _ (by omega)];exact h.gU e,λak k J=>by rw [cU _ (by omega)];exact h.hF ak k J⟩
theorem Mem.tag (aI:di E) (h:Mem E A 0 x) (t:Int):Mem E (A.E3 t) 0 { x with words:=x.words.set 49 t }:=by
 have ak:=aI.wA;obtain ⟨aJ,g⟩:=h.st aI (a:=49) (by omega) t;refine h.low aI aJ (by omega) (by omega) (λ_ _=>rfl) rfl (.inl (by omega)) ?_ ?_ (λe=>?_) λak k J=>?_
 ·rw [g,if_neg (by omega)];exact h.gq
 ·rw [g,if_neg (by omega)];exact h.eo
 ·rw [g,if_pos rfl];rfl
 ·rw [g,if_neg (by omega)];exact h.hF ak k J
theorem Mem.aC (aI:di E) (h:Mem E A m x) {p:a6} (ar:p ∈ cA E) (aX:A.cO m (b9 p)<=2):(A.cO m (b9 p)=0->x.get (b9 p * 8)=p.Head)/\(x.get (b9 p * 8)=ii p.Head 0↔A.cO m (b9 p)=1):=by
 have dH:=h.cO p ar;have c_:=aI.cH;have ed:=c_.head p ar;have kg:=(c_.avg p ar 0 (by omega)).1;have aj:=aI.avf p ar;generalize aM:A.cO m (b9 p)=s at dH aX ⊢
 match s,dH,aX with
 | 0,dH,_=>have e:=dH 0 (by omega);rw [vp] at e;have bg:x.get (b9 p * 8)=p.Head:=e.trans ed.symm;exact ⟨λ_=>bg,⟨λdF=>absurd (dF.symm.trans bg) kg,λdF=>by cases dF⟩⟩
 | 1,dH,_=>exact ⟨λe=>(by cases e),⟨λ_=>rfl,λ_=>dH.1⟩⟩
 | 2,dH,_=>have e:=dH 0 (by omega);rw [vp] at e;have bg:x.get (b9 p * 8)=t_ p.Head:=e;exact ⟨λe=>(by cases e),⟨λdF=>absurd (dF.symm.trans bg) aj,λdF=>by cases dF⟩⟩
end
end
section
open iH
def kc (m:Nat) (a o w:Int):bn:=⟨3,(m:Int),a,0,o,w,[],1,1⟩
def eL (m:Nat) (a k:Int):bn:=⟨1,(m:Int),a,k,0,0,[],1,1⟩
theorem AJ {n L m:Nat} {a o w:Int} (aj:n<=5) (hm:m<n) (bE:1<=L/\L<=256) (bc:24<=a) (aL:a+1<=L * 8):n7 n L (kc m a o w):=by
 refine ⟨λk J g_=>?_,⟨by show (0:Int)<=m;omega,by show (m:Int)<n;omega⟩,rfl,rfl⟩;have ab:(kc m a o w).v.count=1:=rfl;have aD:(kc m a o w).v.inside k L=true:=by unfold a0.inside a0.eU a0.ft;rw [ab];apply decide_eq_true;show 1<=k/\k<=5/\1<=(L:Int)/\(L:Int)<=256/\0<=(m:Int)/\(m:Int)<k/\0<=a/\a<(L:Int) * 8/\(1:Int)<=1024/\(a+1 - 1) / 8<(L:Int)/\(a+1 - 1) / 8 - a / 8<128;omega
 unfold a0.valid;rw [ab,if_neg (by omega),aD,if_neg (by simp),if_neg];unfold a0.eU a0.ft a0.last;rw [ab];show ¬ (a / 8<=(if (3:Int)=1 then 3 else 2)/\(if (3:Int)=1 then 3 else 2)<(a+1 - 1) / 8);rw [if_neg (by omega)];omega
theorem y2 {n L m:Nat} {a c:Int} (aj:n<=5) (hm:m<n) (bE:1<=L/\L<=256) (bc:0<=a) (af:1<=c/\c<=1000) (aL:a+c<=L * 8) (aX:32<=a\/a+c<=32):n7 n L (eL m a c):=by
 refine ⟨λk J g_=>?_,⟨by show (0:Int)<=m;omega,by show (m:Int)<n;omega⟩,rfl,rfl⟩;have ab:(eL m a c).v.count=c:=rfl;have aD:(eL m a c).v.inside k L=true:=by unfold a0.inside a0.eU a0.ft;rw [ab];apply decide_eq_true;show 1<=k/\k<=5/\1<=(L:Int)/\(L:Int)<=256/\0<=(m:Int)/\(m:Int)<k/\0<=a/\a<(L:Int) * 8/\c<=1024/\(a+c - 1) / 8<(L:Int)/\(a+c - 1) / 8 - a / 8<128;omega
 unfold a0.valid;rw [ab,if_neg (by omega),aD,if_neg (by simp),if_neg];unfold a0.eU a0.ft a0.last;rw [ab];show ¬ (a / 8<=(if (1:Int)=1 then 3 else 2)/\(if (1:Int)=1 then 3 else 2)<(a+c - 1) / 8);rw [if_pos rfl];omega
theorem Rm:∀ (f:Nat) (a c:Int),a % 8=0->c<=f->∀ e:Nat,(mW f a c)[e]?=if 8 * (e:Int)<c then some (a+8 * e,if 8<c - 8 * e then 8 else c - 8 * e) else none
 | 0,a,c,bc,ab,e=>by rw [if_neg (by omega)];rfl
 |f+1,a,c,bc,ab,e=>by
  unfold mW;by_cases aN:c<=0
  ·rw [if_pos aN,if_neg (by omega)];rfl
  rw [if_neg aN,bc];by_cases hj:8 - 0<c
  ·rw [if_pos hj];cases e with
   |zero=>rw [if_pos (by omega)];simp only [FB];congr 1;rw [if_pos (by omega)];simp
   |succ e=>
    rw [zg,Rm f _ _ (by omega) (by omega) e];by_cases h:8 * ((e+1:Nat):Int)<c
    ·rw [if_pos (by omega),if_pos h];congr 2
     ·omega
     ·congr 1
      ·simp;omega
      ·omega
    ·rw [if_neg (by omega),if_neg h]
  ·rw [if_neg hj];cases e with
   |zero=>rw [if_pos (by omega)];simp only [FB];rw [if_neg (by omega)];simp
   |succ e=>
    rw [zg,if_neg (by omega)];cases f with
    |zero=>rfl
    |succ f=>unfold mW;rw [if_pos (by omega)];rfl
section
variable {p:fx} {x:bt} {im:List bn} {m:Nat}
theorem Se {a:Nat} {ws:bR} (fO:jW p) (fP:p.bN=dV m a ws::im) (aA:p.refusal (dV m a ws) x=0) (bc:a % 8=0) (aC:p.words=[]) (au:a+ws.length<=x.words.length) :
  8 * p.cu<ws.length/\(p.step x).2.1=x.write (a+8 * p.cu) ((ws.drop (8 * p.cu)).take 8)/\Bh a ws.length x (p.step x).2.1/\(∀ k,k<ws.length->8 * p.cu<=k/\k<8 * (p.cu+1)\/x.get (a+k)=ws.getD k 0->(p.step x).2.1.get (a+k)=ws.getD k 0)/\
   ((8 * (p.cu+1)<ws.length/\(p.step x).1={ p with cu:=p.cu+1 }/\(p.step x).2.2=none)\/(ws.length<=8 * (p.cu+1)/\(p.step x).1=p.done/\(p.step x).2.2=some ⟨0,[]⟩)):=by
 have dw:=fO.nr _ _ fP;have Tz:(dV m a ws).v.count=ws.length:=rfl;have a':∀ e:Nat,(dV m a ws).v.pieces[e]?=if 8 * (e:Int)<ws.length then some ((a:Int)+8 * e,if 8<(ws.length:Int) - 8 * e then 8 else (ws.length:Int) - 8 * e) else none:=λe=>by unfold a0.pieces;rw [Tz];exact Rm _ _ _ (by show (a:Int) % 8=0;omega) (by omega) e
 have hlen:∀ e:Nat,e<(dV m a ws).v.pieces.length↔8 * e<ws.length:=λe=>by
  have:=a' e;constructor
  ·intro h;rw [cp h] at this;by_cases hj:8 * (e:Int)<ws.length
   ·omega
   ·rw [if_neg hj] at this;cases this
  ·intro h;rw [if_pos (by omega)] at this;exact dy this
 have hj:=(hlen _).1 dw;have po:(dV m a ws).v.pieces.getD p.cu (0,0)=((a:Int)+8 * p.cu,if 8<(ws.length:Int) - 8 * p.cu then 8 else (ws.length:Int) - 8 * p.cu):=by rw [gd,a',if_pos (by omega)];rfl
 have ao:exec (dV m a ws) ((dV m a ws).v.pieces.getD p.cu (0,0)) x=(x.write (a+8 * p.cu) ((ws.drop (8 * p.cu)).take 8),[]):=by
  rw [po];unfold exec;rw [if_neg (show ¬ (dV m a ws).kind=1 by show ¬ (2:Int)=1;omega),if_pos (show (dV m a ws).kind=2 from rfl)];show (x.write ((a:Int)+8 * p.cu).toNat ((ws.drop ((a:Int)+8 * p.cu - (a:Int)).toNat).take (if 8<(ws.length:Int) - 8 * p.cu then (8:Int) else (ws.length:Int) - 8 * p.cu).toNat),([]:bR))=_;have e:(ws.drop (8 * p.cu)).take (if 8<(ws.length:Int) - 8 * p.cu then (8:Int) else (ws.length:Int) - 8 * p.cu).toNat=(ws.drop (8 * p.cu)).take 8:=by
   split
   ·rfl
   ·rw [ny (by rw [vq];omega),ny (by rw [vq];omega)]
  rw [show ((a:Int)+8 * p.cu - (a:Int)).toNat=8 * p.cu by omega,show ((a:Int)+8 * p.cu).toNat=a+8 * p.cu by omega,e]
 have tx:=L4 fP aA;rw [ao,aC] at tx;have ps:((ws.drop (8 * p.cu)).take 8).length<=8/\a+8 * p.cu+((ws.drop (8 * p.cu)).take 8).length<=a+ws.length:=by simp;omega
 have g:=Hw (n:=x) (a:=a+8 * p.cu) (ws:=(ws.drop (8 * p.cu)).take 8) (by omega);have bY:(p.step x).2.1=x.write (a+8 * p.cu) ((ws.drop (8 * p.cu)).take 8):=by rw [tx];split<;>rfl
 refine ⟨hj,bY,?_,λk J G3=>?_,?_⟩
 ·rw [bY];exact ⟨Xy (by omega),rfl,λi aD=>by rw [g,if_neg (by omega)]⟩
 ·rw [bY,g];by_cases gE:a+8 * p.cu<=a+k/\a+k<a+8 * p.cu+((ws.drop (8 * p.cu)).take 8).length
  ·rw [if_pos gE,show a+k - (a+8 * p.cu)=k - 8 * p.cu by omega];simp only [gd];rw [Ig (by omega),uf];congr 2;omega
  ·rw [if_neg gE];rcases G3 with G3 | G3
   ·exfalso;simp at gE <;> omega
   ·exact G3
 ·rw [tx];by_cases h:p.cu+1<(dV m a ws).v.pieces.length
  ·rw [if_pos h];exact .inl ⟨(hlen _).1 h,by simp [aC],rfl⟩
  ·rw [if_neg h];exact .inr ⟨by have:=(hlen (p.cu+1));omega,rfl,rfl⟩
theorem an3 {a k:Nat} (fO:jW p) (fP:p.bN=eL m a k::im) (aA:p.refusal (eL m a k) x=0) (bc:a % 8=0\/k=1) (aC:p.words=(x.words.drop a).take (8 * p.cu)) (au:a+k<=x.words.length) :
  (p.step x).2.1=x/\(((p.step x).1={ p with cu:=p.cu+1,words:=(x.words.drop a).take (8 * (p.cu+1)) }/\(p.step x).2.2=none)\/((p.step x).1=p.done/\(p.step x).2.2=some ⟨0,(x.words.drop a).take k⟩)):=by
 have dw:=fO.nr _ _ fP;have Tz:(eL m a k).v.count=k:=rfl;have tx:=L4 fP aA;by_cases hk:k=1
 ·subst hk;have po:(eL m a (1:Nat)).v.pieces=[((a:Int),1)]:=EH (v:=(eL m a (1:Nat)).v) (by show (1:Int)<=1;omega) (by show (a:Int) % 8+1<=8;omega) (by show (0:Int)<=a;omega);have he:p.cu=0:=by rw [po] at dw;simp at dw;exact dw
  rw [po,he] at tx;rw [tx];refine ⟨by simp [exec,eL],.inr ⟨by simp,?_⟩⟩;rw [aC,he];simp [exec,eL,bt.read]
 have bc:a % 8=0:=bc.resolve_right hk;have a':∀ e:Nat,(eL m a k).v.pieces[e]?=if 8 * (e:Int)<k then some ((a:Int)+8 * e,if 8<(k:Int) - 8 * e then 8 else (k:Int) - 8 * e) else none:=λe=>by unfold a0.pieces;rw [Tz];exact Rm _ _ _ (by show (a:Int) % 8=0;omega) (by omega) e
 have hlen:∀ e:Nat,e<(eL m a k).v.pieces.length↔8 * e<k:=λe=>by
  have:=a' e;constructor
  ·intro h;rw [cp h] at this;by_cases hj:8 * (e:Int)<k
   ·omega
   ·rw [if_neg hj] at this;cases this
  ·intro h;rw [if_pos (by omega)] at this;exact dy this
 have hj:=(hlen _).1 dw;have po:(eL m a k).v.pieces.getD p.cu (0,0)=((a:Int)+8 * p.cu,if 8<(k:Int) - 8 * p.cu then 8 else (k:Int) - 8 * p.cu):=by rw [gd,a',if_pos (by omega)];rfl
 have hw:p.words++(exec (eL m a k) ((eL m a k).v.pieces.getD p.cu (0,0)) x).2=(x.words.drop a).take (min (8 * (p.cu+1)) k):=by rw [po,aC];unfold exec;rw [if_pos (show (eL m a k).kind=1 from rfl)];simp only [bt.read];rw [show ((a:Int)+8 * p.cu).toNat=a+8 * p.cu by omega,<-Mf,<-List.take_add];congr 1;split<;>omega
 have af:(exec (eL m a k) ((eL m a k).v.pieces.getD p.cu (0,0)) x).1=x:=by unfold exec;rw [if_pos (show (eL m a k).kind=1 from rfl)]
 rw [hw,af] at tx;rw [tx];by_cases h:p.cu+1<(eL m a k).v.pieces.length
 ·rw [if_pos h];have:=(hlen _).1 h;rw [show min (8 * (p.cu+1)) k=8 * (p.cu+1) by omega];exact ⟨rfl,.inl ⟨rfl,rfl⟩⟩
 ·rw [if_neg h];have:=hlen (p.cu+1);rw [show min (8 * (p.cu+1)) k=k by omega];exact ⟨rfl,.inr ⟨rfl,rfl⟩⟩
theorem IN {a:Nat} {o w:Int} (fO:jW p) (fP:p.bN=kc m a o w::im) (aA:p.refusal (kc m a o w) x=0):p.step x=(p.done,x.kS a o w,some ⟨0,[x.get a]⟩):=by have ar:(kc m a o w).v.pieces=[((a:Int),1)]:=EH (v:=(kc m a o w).v) (by show (1:Int)<=1;omega) (by show (a:Int) % 8+1<=8;omega) (by show (0:Int)<=a;omega);rw [Yw fO fP aA ar,aka rfl];rfl
theorem RW {v:bn} (fP:p.bN=v::im) (aA:p.refusal v x≠0):p.step x=(p.done,x,some ⟨p.refusal v x,[]⟩):=by unfold fx.step;rw [fP];simp only;rw [if_pos aA]
end
end
end Go.Proofs.YtmkljjbioomepaaGreat
