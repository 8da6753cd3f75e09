import Derived.Test.YtmkljjbioomepaaGreatg13
import Derived.Test.YtmkljjbioomepaaGreatg12
import Derived.OrdersIn
import Derived.Test.YtmkljjbioomepaaGreatg03
set_option linter.all false
namespace Go.Proofs.YtmkljjbioomepaaGreat
open Go.bJ
theorem Lw (C:a9)(j:Nat)(l:ct)(p:cH)(d:Option cN):(C.comes j l p d).alive=C.alive:=by cases d<;>rfl
theorem zC {n:aD}{a:Nat}{ws:a7}(h:a+ws.length<=n.words.length):(n.write a ws).words.length=n.words.length:=by
 grind[aD.write]
theorem rR {n:aD}{a:Nat}{ws:a7}(h:a+ws.length<=n.words.length)(i:Nat):(n.write a ws).get i=if a<=i/\i<a+ws.length then ws.getD (i-a) 0 else n.get i:=by
 unfold aD.write aD.get
 grind
theorem PZ {n:aD}{a:Nat}(h:a<n.words.length)(v:Int)(i:Nat):({n with words:=n.words.set a v}:aD).get i=if i=a then v else n.get i:=by
 unfold aD.get
 grind
theorem Pp {n:aD}{a:Nat}(h:a<n.words.length):n.read a 1=[n.get a]:=by
 unfold aD.read;simp only[hD];rw[wv h];have b:=aD.get_some h
 grind
theorem pk {v:aG}(c:1<=v.count)(d:v.cL % 8+v.count<=8)(b:0<=v.cL):v.pieces=[(v.cL,v.count)]:=by
 unfold aG.pieces;obtain⟨f,a⟩:∃ f,v.count.toNat=f+1:=⟨v.count.toNat-1,by omega⟩;rw[a,hT,aQ (by omega)];have e:(if 8-v.cL % 8<v.count then 8-v.cL % 8 else v.count)=v.count:=by
  grind
 rw[e];cases f with
 |zero=>rfl
 |succ f=>rw[hT,bh (by omega)]
structure e9 (N L:Nat)(x:bc):Prop where
 valid:∀ m:Int,N<=m->m<=5->x.v.valid m L=0
 node:0<=x.node/\x.node<N
 key:x.key=1
 eX:x.eX=1
theorem uE {p:cH}{n:aD}{x:bc}{xs:a_}(al:p.a1=x::xs)(a:p.refusal x n=0) :
  p.step n=if p.b4+1<x.v.pieces.length then({p with b4:=p.b4+1,words:=p.words++(exec x (x.v.pieces.getD p.b4 (0,0)) n).2},(exec x (x.v.pieces.getD p.b4 (0,0)) n).1,none)
   else(p.done,(exec x (x.v.pieces.getD p.b4 (0,0)) n).1,some ⟨0,p.words++(exec x (x.v.pieces.getD p.b4 (0,0)) n).2⟩):=by
 unfold cH.step
 grind
theorem EZ {p:cH}{n:aD}{x:bc}{xs:a_}(b:gu p)(al:p.a1=x::xs)(d:p.refusal x n=0){pc:Int×Int}(a:x.v.pieces=[pc]):p.step n=(p.done,(exec x pc n).1,some ⟨0,(exec x pc n).2⟩):=by
 have c:=b.ih x xs al;rw[a]at c;have he:p.b4=0:=by grind
 rw[uE al d,a,he];simp[b.zero he]
structure n3 (a k:Nat)(n n':aD):Prop where
 len:n'.words.length=n.words.length
 down:n'.down=n.down
 get:∀ i,i<a\/a+k<=i->n'.get i=n.get i
theorem Mq {x:bc}(h:x.kind=2)(g:0<=x.at_){n:aD}(k:x.at_+x.words.length<=n.words.length){pc:Int×Int}(d:pc ∈ x.v.pieces):n3 x.at_.toNat x.words.length n (exec x pc n).1/\(exec x pc n).2=[]:=by
 have a:x.v.count=x.words.length:=by unfold aG.count;have:x.v.Kind=2:=h;simp[this];rfl
 have b:=yI _ _ _ (show 0<=x.v.cL from g) pc d;rw[a]at b;have c:x.v.cL=x.at_:=rfl;rw[c]at b;have e:exec x pc n=(n.write pc.1.toNat ((x.words.drop (pc.1-x.at_).toNat).take pc.2.toNat),[]):=by
  unfold exec
  grind
 rw[e];have f:((x.words.drop (pc.1-x.at_).toNat).take pc.2.toNat).length=pc.2.toNat:=by grind
 refine⟨⟨zC (by grind),rfl,λi j=>?_⟩,rfl⟩;rw[rR (by grind),f,aQ (by omega)]
theorem Pq {x:bc}(a:x.kind=3){n:aD}(pc:Int×Int):exec x pc n=(n.dr x.at_ x.old x.new,[n.get x.at_.toNat]):=by
 unfold exec
 grind
theorem Mr {x:bc}(a:x.kind=1)(b:0<=x.at_){n:aD}(c:x.at_.toNat<n.words.length):exec x (x.at_,1) n=(n,[n.get x.at_.toNat]):=by
 unfold exec;rw[bh a]
 grind[Pp]
end Go.Proofs.YtmkljjbioomepaaGreat
namespace Go.Proofs.YtmkljjbioomepaaGreat
open Go.bJ
def nX (j:cJ):a_:=qi j (fN j.aL+8) (fW j.seq j.writes)
def nY (j:cJ):a_:=qi j (fN j.aL) [gw j.seq]
structure Fit (vs:a_)(ds:ck):Prop where
 len:ds.length=vs.length
 each:∀ (q:Nat) (v:bc) (d:cN),vs[q]?=some v->ds[q]?=some d->d.code=0/\(d.words.length:Int)=v.v.hi
theorem C6:∀ {ds:ck},(∀ d ∈ ds,d.code=0)->hY ds=0
 | [],_=>rfl
 |d::ds,h=>by unfold hY;rw[bh (h d fR)];exact C6 λx a=>h x (fG _ a)
theorem Fit.TE {vs:a_}{ds:ck}(h:Fit vs ds):hY ds=0:=C6 λd c=>by
 obtain⟨q,b⟩:=ez.1 c;have e:=cS b;have a:q<vs.length:=by rw[<-h.len];grind
 exact(h.each q vs[q] d (b2 a) b).1
theorem Fit.k6 {vs:a_}{ds:ck}(h:Fit vs ds):Go.Proofs.YtmkljjbioomepaaGreat.k6 vs ds=true:=by
 unfold Go.Proofs.YtmkljjbioomepaaGreat.k6;rw[gL,mL,jt];refine⟨h.len.symm,λp c=>?_⟩;obtain⟨q,d⟩:=ez.1 c;obtain⟨a,b⟩:=Ct.1 d;obtain⟨e,f⟩:=h.each q p.1 p.2 a b;unfold ti
 grind
theorem yY {vs:a_}(h:vs≠[])(a:Int):cA [] vs a=⟨false,[],(0,0),[],some vs,false⟩:=by
 have c:vs.length≠0:=λe=>h (oL.1 e)
 have b:batch [] vs=⟨[],false,[],some vs,false⟩:=by unfold batch;grind
 grind[cA]
theorem za {vs:a_}{d:ck}(G:a3)(al:vs≠[])(h:Fit vs d)(a:Int):cA (d::G) vs a=⟨true,d,(0,0),G,none,false⟩:=by
 have c:vs.length≠0:=λe=>al (oL.1 e)
 have b:batch (d::G) vs=⟨d,true,G,none,false⟩:=by unfold batch;rw[aQ c];simp only[h.k6,if_true]
 unfold cA;rw[b];simp only[h.TE];rfl
theorem DG (G:a3)(a:Int):cA G [] a=⟨true,[],(0,0),G,none,false⟩:=by have b:batch G []=⟨[],true,G,none,false⟩:=bh rfl;unfold cA;rw[b];rfl
set_option linter.unusedSectionVars false
section
variable {j:cJ}(al:j.valid=0)(fu:j.writes≠[])
include al fu
theorem ND (G:a3):sL j G=cA G (nX j) 1:=by
 unfold sL oj nX
 grind
theorem NF (G:a3):u4 j G=cA G (nY j) 2:=by
 unfold u4 oj nY
 grind
theorem Pr (G:a3):oe j G=cA G (iu j) 3:=by
 unfold oe
 grind
theorem P0:dL j≠[]:=by
 unfold dL
 simp_all
theorem P1 {D:ck}(a:Fit (dL j) D)(b:iX (iW j) D=false)(G:a3):kQ j (D::G)=⟨true,[],(0,0),G,none,false⟩:=by
 unfold kQ;rw[za G (P0 al fu) a]
 grind
def ZA (j:cJ)(D:ck):a_:=h0 (dL j) (iW j) D
end
end Go.Proofs.YtmkljjbioomepaaGreat
namespace Go.Proofs.YtmkljjbioomepaaGreat
open Go.bJ
def j' (n:Nat):jT:=⟨0,stM n⟩
theorem gi.jg {A:a4}{aw:bR}{w0 w u:an}{aM:Nat}{L B:a4}{f:bR}{X a:bs}(t:gi A aw w aM L u B f X)(c:cj A aw w aM a)(e:ai w0 w)(b:∀ k,A k->w0.heap.size<=k):ai w0 u:=
 e.trans t.next.aA λk g d=>by have:=b k (c.fs k d);omega
theorem P2 {A:a4}{w u:an}{a:ak}{xs:ax}(b:bl w a xs)(d:ai w u)(c:∀ k,A k->w.heap.size<=k):pR A u a xs:=by
 refine⟨b.new d,?_⟩;by_cases e:xs=[]
 ·grind
 ·refine .inr ?_;cases a with
  |none=>trivial
  |some a=>intro h;have:=c _ h;have:=b.lt e;omega
namespace dF
def conv:Conv:=⟨cJ,Int×Int,ee⟩
structure re (A:a4)(w:an)(r:dj)(j:cJ):Prop where
 at_:qS w r j
 view:gD A w r.View j.v
 ZH:(GU j.reads).flatten=[]\/gU A r.Reads
 ZK:(iw j.writes).flatten=[]\/gU A r.eN
 mm:pT j
theorem gD.aA {A A':a4}{w w':an}{r:da}{v:jT}(h:gD A w r v)(b:ao A w w')(a:∀ k,k<w.heap.size->A' k->A k):gD A' w' r v:=
 ⟨h.num,h.len,h.cap,h.rd.aA b h.off,gU.aA h.rd h.off a,h.small⟩
theorem re.aA {A A':a4}{w w':an}{r:dj}{j:cJ}(h:re A w r j)(d:ao A w w')(c:∀ k,k<w.heap.size->A' k->A k):re A' w' r j:=by obtain⟨a,al,e,hw,dR⟩:=h;have b:=gD.aA al d c;exact⟨⟨a.aL,a.seq,a.lines,⟨A',b⟩,a.rd.aA d e,a.len,a.ei,⟨a.b6.rd.aA d hw,a.b6.len,a.b6.ei,a.b6.u64⟩⟩,b,gU.aA a.rd e c,gU.aA a.b6.rd hw c,dR⟩
end dF
end Go.Proofs.YtmkljjbioomepaaGreat
namespace Go.Proofs.YtmkljjbioomepaaGreat
open Go.bJ dF
def bj (m:Nat):aS:=⟨(m:Int),1,true⟩
def ca (m:Nat)(a:Int)(ws:a7):bc:=⟨2,(m:Int),a,0,0,0,ws,1,1⟩
def Bp (a old new:Int):bc:=⟨3,0,a,0,old,new,[],1,1⟩
def B1 (a:Int):bc:=⟨1,0,a,1,0,0,[],1,1⟩
theorem oS {n L m:Nat}{a:Int}{ws:a7}(l:n<=5)(hm:m<n)(h:1<=L/\L<=256)(i:24<=a)(e:1<=ws.length)(f:ws.length<=1000)(g:a+ws.length<=L*8):e9 n L (ca m a ws):=by
 refine⟨λk j d=>?_,⟨by show(0:Int)<=m;omega,by show(m:Int)<n;omega⟩,rfl,rfl⟩;have b:(ca m a ws).v.count=ws.length:=rfl;have c:(ca m a ws).v.inside k L=true:=by unfold aG.inside aG.fz aG.hI;rw[b];apply wq;show 1<=k/\k<=5/\1<=(L:Int)/\(L:Int)<=256/\0<=(m:Int)/\(m:Int)<k/\0<=a/\a<(L:Int)*8/\(ws.length:Int)<=1024/\(a+ws.length-1) / 8<(L:Int)/\(a+ws.length-1) / 8-a / 8<128;omega
 unfold aG.valid;rw[b,aQ (by omega),c,aQ (by simp),aQ];unfold aG.fz aG.hI aG.last;rw[b];show¬ (a / 8<=(if(2:Int)=1 then 3 else 2)/\(if(2:Int)=1 then 3 else 2)<(a+ws.length-1) / 8)
 grind
structure Env where
 n:Nat
 L:Nat
 base:Nat->Nat->Int
 o8:Nat->Int
 ids:c6
 dV:Nat->cJ
 ZI:Bool
def Env.on (E:Env)(i:Nat):Prop:=i ∈ E.ids
structure eB (E:Env)(i:Nat)(j:cJ):Prop where
 cC:j.aL=(i:Int)
 i6:i<6
 valid:j.valid=0
 view:j.v=j' E.n
 some_:j.writes≠[]
 ei:j.writes.length<=12
 yO:j.reads.length<=24
 line:∀ p ∈ j.writes,∃ l:Nat,p.bt=(l:Int)/\96<=l/\l<E.L
 ZG:∀ s ∈ j.reads,∃ l:Nat,s.bt=(l:Int)/\96<=l/\l<E.L
 uniq:∀ p ∈ j.writes,∀ q ∈ j.writes,p.bt=q.bt->p=q
 nodup:(j.writes.map (·.bt)).Nodup
 head:∀ p ∈ j.writes,p.Head=E.base p.bt.toNat 0
 Uk:∀ p ∈ j.writes,∀ k:Nat,k<6->dK p.Head k≠p.Head/\(dK p.Head k=dK p.Head i->k=i)
 next:∀ p ∈ j.writes,mO p.Head≠p.Head
 ZF:∀ s ∈ j.reads,s.Head=E.base s.bt.toNat 0
 ZE:∀ s ∈ j.reads,∀ p ∈ j.writes,s.bt≠p.bt
structure q4 (E:Env):Prop where
 n:1<=E.n/\E.n<=5
 L:98<=E.L/\E.L<=256
 ids:E.ids.Nodup
 bp:∀ i,E.on i->eB E i (E.dV i)
section
variable {E:Env}{i:Nat}{j:cJ}
theorem eB.mem (h:eB E i j):j.v.mem=(List.range E.n).map bj:=by rw[h.view];rfl
theorem eB.num (h:eB E i j):j.v.number=0:=by rw[h.view];rfl
theorem eB.bS (h:eB E i j)(b:1<=E.n):tq j=bj 0:=by
 unfold tq;rw[h.mem];obtain⟨k,a⟩:∃ k,E.n=k+1:=⟨E.n-1,by omega⟩
 grind[List.range_succ_eq_map]
theorem eB.tail (h:eB E i j):j.v.mem.tail=(List.range (E.n-1)).map λm=>bj (m+1):=by
 rw[h.mem];cases a:E.n with
 |zero=>rfl
 |succ k=>rw[zz];simp
theorem eB.log (h:eB E i j)(a:Int)(ws:a7):qi j a ws=(List.range E.n).map λm=>ca m a ws:=by unfold qi;rw[h.mem,h.num,oM];rfl
theorem eB.dr (h:eB E i j)(a:1<=E.n)(p:aN):mj j p=Bp (p.bt*8) p.Head (dK p.Head i):=by unfold mj;rw[h.num,h.bS a,h.cC];rfl
theorem eB.read (h:eB E i j)(a:1<=E.n)(s:eW):oR j s=B1 (s.bt*8):=by unfold oR;rw[h.num,h.bS a];rfl
def fo (m:Nat)(p:aN):bc:=ca m (p.bt*8) (jU p)
def o9 (i:Nat)(seq:Int)(m:Nat):bc:=ca m (32+(i:Int)) [seq]
theorem eB.gP (h:eB E i j)(m:Nat)(p:aN):j_ j (bj m) p=fo m p:=by unfold j_;rw[h.num];rfl
theorem eB.clock (h:eB E i j)(m:Nat):l3 j (bj m)=o9 i j.seq m:=by unfold l3;rw[h.num,h.cC];rfl
theorem eB.Iy (h:eB E i j)(a:1<=E.n):dL j=(j.writes.map λp=>Bp (p.bt*8) p.Head (dK p.Head i))++j.reads.map λs=>B1 (s.bt*8):=by
 unfold dL;congr 1
 ·exact sk λp _=>h.dr a p
 ·exact sk λs _=>h.read a s
theorem eB.HL (h:eB E i j):q7 j=((List.range (E.n-1)).map λm=>(j.writes.map (fo (m+1))++[o9 i j.seq (m+1)])).flatten:=by
 unfold q7;rw[h.tail,oM];congr 1;refine sk λm _=>?_
 show kG j (bj (m+1))=_;unfold kG;rw[aQ h.some_,h.clock];congr 1;exact sk λp _=>h.gP (m+1) p
theorem eB.HV (h:eB E i j)(b:1<=E.n):iu j=o9 i j.seq 0::j.writes.map (fo 0):=by have hm:=h.mem;unfold iu;obtain⟨k,a⟩:∃ k,E.n=k+1:=⟨E.n-1,by omega⟩;rw[a,zz]at hm;rw[hm];simp only[iI];rw[h.clock];congr 1;exact sk λp _=>h.gP 0 p
theorem eB.Bm (h:eB E i j):nX j=(List.range E.n).map λm=>ca m (56+120*(i:Int)) (fW j.seq j.writes):=by
 unfold nX;rw[h.log,h.cC]
 grind[fN]
theorem eB.BK (h:eB E i j):nY j=(List.range E.n).map λm=>ca m (48+120*(i:Int)) [gw j.seq]:=by unfold nY;rw[h.log,h.cC];rfl
end
end Go.Proofs.YtmkljjbioomepaaGreat
namespace Go.Proofs.YtmkljjbioomepaaGreat
open Go.bJ dF
structure ef (L:Nat)(c0:Bool)(n:aD):Prop where
 up:n.down=false
 len:n.words.length=L*8
 key:n.get 0=1
 eX:n.get 1=1
 d0:n.get 24=if c0=true then 2 else 1
 fJ:∀ c:Nat,1<=c->c<6->n.get (24+c)=1
theorem AJ {N L:Nat}{c0:Bool}{n:aD}(a:ef L c0 n)(j:N<=5){x:bc}(d:e9 N L x){p:cH}{c:Nat}(l:p.aL=c)(i:p.inc=1)(h:c<6):p.refusal x n=if x.v.cls=1/\x.v.Kind=1 then 0 else if c0=true/\c=0 then 5 else 0:=by
 unfold cH.refusal;rw[aQ (by rw[a.up];simp),a.len,show L*8 / 8=L by omega,aQ (by rw[d.valid 5 (by omega) (by omega)];simp)];have e:(24+p.aL).toNat=24+c:=by grind
 rw[e,a.key,a.eX,i];unfold aG.check;split
 ·rfl
 have k:¬ (x.v.cK<0\/x.v.cK≠1\/x.v.Key≠1):=by show¬ (x.eX<0\/x.eX≠1\/x.key≠1);rw[d.key,d.eX];omega
 have g:∀ b:Int,(if(1:Int)<0\/(1:Int)<b then(5:Int)else if x.v.cls=1 then 0 else if x.v.cK<0\/x.v.cK≠1\/x.v.Key≠1 then 5 else 0)=if 1<b then 5 else 0:=λb=>by
  grind
 rw[g];by_cases f:c=0
 ·subst f;rw[mJ,a.d0]
  grind
 ·rw[a.fJ c (by omega) h,aQ (by decide),aQ (λe=>f e.2)]
theorem n3.aT {a k L:Nat}{c0:Bool}{n n':aD}(h:n3 a k n n')(b:ef L c0 n)(f:30<=a):ef L c0 n':=
 ⟨h.down.trans b.up,h.len.trans b.len,(h.get 0 (by omega)).trans b.key,(h.get 1 (by omega)).trans b.eX,by rw[h.get 24 (by omega)];exact b.d0,λc d e=>by rw[h.get (24+c) (by omega)];exact b.fJ c d e⟩
abbrev bD (E:Env):List aN:=(E.dV 0).writes
abbrev dt (E:Env):Int:=(E.dV 0).seq
abbrev hk (E:Env):a7:=fW (dt E) (bD E)
abbrev iH (E:Env):Int:=gw (dt E)
abbrev bz (p:aN):Nat:=p.bt.toNat
structure b8 (E:Env):Prop where
 e:q4 E
 one:E.ids=[0]
 rd:(E.dV 0).reads=[]
 Uj:∀ p ∈ bD E,dK p.Head 0≠mO p.Head
 yQ:gk (dt E) (bD E) E.L=0
 mm:pT (E.dV 0)
 u64:∀ p ∈ bD E,cy p.Head
 o8:0<=E.o8 0/\E.o8 0<dt E
 cf:∀ l,96<=l->l<E.L->E.base l 0 % 2=0
theorem b8.bp {E:Env}(h:b8 E):eB E 0 (E.dV 0):=h.e.bp 0 (by unfold Env.on;rw[h.one];simp)
theorem b8.seq {E:Env}(h:b8 E):1<=dt E/\dt E<1073741824:=by
 obtain⟨_,a,_⟩:=jA h.yQ
 grind
theorem b8.pl {E:Env}(h:b8 E){p:aN}(c:p ∈ bD E):96<=bz p/\bz p<E.L/\p.bt=(bz p:Int):=by
 obtain⟨l,e,a,b⟩:=h.bp.line p c
 grind
theorem b8.inj {E:Env}(h:b8 E){p q:aN}(a:p ∈ bD E)(b:q ∈ bD E)(e:bz p=bz q):p=q:=
 h.bp.uniq p a q b (by rw[(h.pl a).2.2,(h.pl b).2.2,e])
theorem b8.k2 {E:Env}(h:b8 E):(hk E).length=3+9*(bD E).length/\(bD E).length<=12:=⟨pq _ _,h.bp.ei⟩
structure bn where
 b6:Nat->Nat->Nat
 cX:Nat->Bool
 dO:Nat->Bool
 fH:Nat->Bool
 c0:Nat->Bool
 dM:Int
def ri (E:Env)(p:aN)(s:Nat)(x:aD):Prop:=match s with
 | 0=>∀ k,k<8->x.get (bz p*8+k)=E.base (bz p) k
 | 1=>x.get (bz p*8)=dK p.Head 0/\∀ k,1<=k->k<8->x.get (bz p*8+k)=E.base (bz p) k
 | _=>∀ k,k<8->x.get (bz p*8+k)=(jU p).getD k 0
structure Mem (E:Env)(A:bn)(m:Nat)(x:aD):Prop where
 aT:ef E.L (A.c0 m) x
 b6:∀ p ∈ bD E,ri E p (A.b6 m (bz p)) x
 gb:∀ l:Nat,96<=l->l<E.L->(∀ p ∈ bD E,bz p≠l)->∀ k,k<8->x.get (l*8+k)=E.base l k
 cE:∀ c:Nat,1<=c->c<6->x.get (32+c)=E.o8 c
 dO:x.get 32=if A.dO m=true then dt E else E.o8 0
 cX:x.get 48=if A.cX m=true then iH E else 0
 dM:m=0->x.get 49=A.dM
 fH:A.fH m=true->∀ k,k<(hk E).length->x.get (56+k)=(hk E).getD k 0
structure hQ (E:Env)(A:bn)(ns:List aD):Prop where
 len:ns.length=E.n
 mem:∀ (m:Nat) (x:aD),ns[m]?=some x->Mem E A m x
structure e8 (E:Env)(A:bn):Prop where
 fz:∀ m,m<E.n->∀ p ∈ bD E,A.b6 m (bz p)<=2/\(1<=m->A.b6 m (bz p)≠1)
 l2:∀ m,m<E.n->A.cX m=true->(∀ qj,qj<E.n->A.fH qj=true)/\∀ p ∈ bD E,A.b6 0 (bz p)≠0
 lf:∀ m,m<E.n->∀ p ∈ bD E,A.b6 m (bz p)=2->∀ qj,qj<E.n->A.cX qj=true
 np:∀ m,m<E.n->A.dO m=true->∀ qj,qj<E.n->A.cX qj=true
 mu:∀ p ∈ bD E,A.b6 0 (bz p)=2->A.dO 0=true
 oi:A.dO 0=true->∀ m,1<=m->m<E.n->A.dO m=true
 mv:∀ m,1<=m->m<E.n->A.dO m=true->∀ p ∈ bD E,A.b6 m (bz p)=2
def iJ (E:Env)(A:bn):Prop:=∀ m,m<E.n->A.cX m=true
def ff (E:Env)(A:bn):Prop:=∀ m,m<E.n->A.cX m=false
def h4 (E:Env)(A:bn):Prop:=∀ m,m<E.n->A.fH m=true
def iL (E:Env)(A:bn):Prop:=∀ m,m<E.n->A.c0 m=true
def q1 (E:Env)(A:bn):Prop:=∀ m,1<=m->m<E.n->A.dO m=true
def jP (E:Env)(A:bn):Prop:=iJ E A/\A.dO 0=true/\∀ p ∈ bD E,A.b6 0 (bz p)=2
def pY (E:Env)(A:bn):Prop:=iL E A/\ff E A/\∀ p ∈ bD E,A.b6 0 (bz p)=0
structure dq (E:Env)(A A':bn):Prop where
 cX:∀ m,A.cX m=true->A'.cX m=true
 dO:∀ m,A.dO m=true->A'.dO m=true
 fH:∀ m,A.fH m=true->A'.fH m=true
 c0:∀ m,A.c0 m=true->A'.c0 m=true
 b6:∀ m l,A.b6 m l=2->A'.b6 m l=2
theorem dq.refl (E:Env)(A:bn):dq E A A:=⟨λ_ h=>h,λ_ h=>h,λ_ h=>h,λ_ h=>h,λ_ _ h=>h⟩
theorem dq.am {E:Env}{A A':bn}(h:dq E A A')(g:iJ E A):iJ E A':=λm hm=>h.cX m (g m hm)
theorem dq.lb {E:Env}{A A':bn}(h:dq E A A')(g:h4 E A):h4 E A':=λm hm=>h.fH m (g m hm)
theorem dq.bg {E:Env}{A A':bn}(h:dq E A A')(g:iL E A):iL E A':=λm hm=>h.c0 m (g m hm)
theorem dq.Bk {E:Env}{A A':bn}(h:dq E A A')(g:q1 E A):q1 E A':=λm a hm=>h.dO m (g m a hm)
theorem dq.HU {E:Env}{A A':bn}(h:dq E A A')(g:jP E A):jP E A':=⟨h.am g.1,h.dO 0 g.2.1,λp a=>h.b6 0 _ (g.2.2 p a)⟩
def bn.hj (A:bn)(m l s:Nat):bn:={A with b6:=λa l'=>if a=m/\l'=l then s else A.b6 a l'}
def bn.j9 (A:bn)(m:Nat):bn:={A with cX:=λa=>if a=m then true else A.cX a}
def bn.l1 (A:bn)(m:Nat):bn:={A with dO:=λa=>if a=m then true else A.dO a}
def bn.qA (A:bn)(m:Nat):bn:={A with fH:=λa=>if a=m then true else A.fH a}
def bn.pC (A:bn)(m:Nat):bn:={A with c0:=λa=>if a=m then true else A.c0 a}
def bn.pD (A:bn)(t:Int):bn:={A with dM:=t}
section
variable {E:Env}{A:bn}{ns:List aD}{m:Nat}{x gh:aD}
theorem hQ.fD (h:hQ E A ns){A':bn}(f:ns[m]?=some x)(hm:Mem E A' m gh)(d:∀ a,a≠m->∀ y,Mem E A a y->Mem E A' a y):hQ E A' (ns.set m gh):=by
 refine⟨by simpa using h.len,λa y b=>?_⟩;by_cases e:m=a
 ·grind
 ·rw[jN e]at b;exact d a (λc=>e c.symm) y (h.mem a y b)
theorem Mem.same (h:Mem E A m x){A':bn}(b:∀ p ∈ bD E,A'.b6 m (bz p)=A.b6 m (bz p))(c:A'.cX m=A.cX m)(d:A'.dO m=A.dO m)(f:A'.fH m=A.fH m)(g:A'.c0 m=A.c0 m)(i:m=0->A'.dM=A.dM):Mem E A' m x:=
 ⟨by rw[g];exact h.aT,λp a=>by rw[b p a];exact h.b6 p a,h.gb,h.cE,by rw[d];exact h.dO,by rw[c];exact h.cX,λe=>by rw[i e];exact h.dM e,by rw[f];exact h.fH⟩
theorem ri.g0 {p:aN}{s a k:Nat}(h:ri E p s x)(c:n3 a k x gh)(f:a+k<=bz p*8\/bz p*8+8<=a):ri E p s gh:=by
 have g:∀ b,b<8->gh.get (bz p*8+b)=x.get (bz p*8+b):=λb d=>c.get _ (by omega)
 unfold ri at h ⊢;split at h
 ·grind
 ·exact⟨by have:=g 0 (by omega);grind,λb e d=>by grind⟩
 grind
theorem Mem.low (au:b8 E)(h:Mem E A m x){a k:Nat}(b:n3 a k x gh)(u:30<=a)(z:a+k<=768){A':bn}(o:∀ p ∈ bD E,A'.b6 m (bz p)=A.b6 m (bz p))(g:A'.c0 m=A.c0 m)
  (r:38<=a\/a+k<=33) (f:gh.get 32=if A'.dO m=true then dt E else E.o8 0) (j:gh.get 48=if A'.cX m=true then iH E else 0) (q:m=0->gh.get 49=A'.dM) (e:A'.fH m=true->∀ k,k<(hk E).length->gh.get (56+k)=(hk E).getD k 0):Mem E A' m gh:=
 ⟨by rw[g];exact b.aT h.aT u,λp n=>by rw[o p n];exact(h.b6 p n).g0 b (by have:=au.pl n;omega),λl d s t y i=>by rw[b.get _ (by omega)];exact h.gb l d s t y i,λc d w=>by rw[b.get _ (by omega)];exact h.cE c d w,f,j,q,e⟩
theorem Mem.gP (au:b8 E)(h:Mem E A m x){p:aN}(f:p ∈ bD E)(a:n3 (bz p*8) 8 x gh){s:Nat}(t:ri E p s gh):Mem E (A.hj m (bz p) s) m gh:=by
 have u:=au.pl f;refine⟨a.aT h.aT (by omega),λq j=>?_,λl b n i k d=>?_,λc b r=>by rw[a.get _ (by omega)];exact h.cE c b r,by rw[a.get _ (by omega)];exact h.dO,by rw[a.get _ (by omega)];exact h.cX,λe=>by rw[a.get _ (by omega)];exact h.dM e,λo k d=>?_⟩
 ·show ri E q (if m=m/\bz q=bz p then s else A.b6 m (bz q)) gh;by_cases e:bz q=bz p
  ·rw[bh ⟨rfl,e⟩,au.inj j f e];exact t
  ·rw[aQ (λg=>e g.2)];exact(h.b6 q j).g0 a (by omega)
 ·have:=i p f;rw[a.get _ (by omega)];exact h.gb l b n i k d
 ·have:=au.k2;rw[a.get _ (by omega)];exact h.fH o k d
end
end Go.Proofs.YtmkljjbioomepaaGreat
namespace Go.Proofs.YtmkljjbioomepaaGreat
open Go.bJ dF
section
variable {E:Env}{A:bn}{m:Nat}{p:aN}
theorem e8.TB (h:e8 E A)(m:Nat):e8 E (A.qA m):=by
 obtain⟨fz,l2,lf,np,mu,oi,mv⟩:=h;refine⟨fz,λk a e=>⟨λc b=>?_,(l2 k a e).2⟩,lf,np,mu,oi,mv⟩
 grind[bn.qA]
theorem e8.Br (h:e8 E A)(m:Nat):e8 E (A.pC m):=⟨h.fz,h.l2,h.lf,h.np,h.mu,h.oi,h.mv⟩
theorem e8.tag (h:e8 E A)(t:Int):e8 E (A.pD t):=⟨h.fz,h.l2,h.lf,h.np,h.mu,h.oi,h.mv⟩
theorem e8.tv (h:e8 E A){l s:Nat}(r:s<=2)(t:1<=m->s≠1)(j:s=0->m=0->ff E A)(n:s=2->iJ E A)(o:s=2->m=0->A.dO 0=true)(u:1<=m->A.b6 m l=2->s=2):e8 E (A.hj m l s):=by
 obtain⟨fz,l2,lf,np,mu,oi,mv⟩:=h;have e:∀ k q,(A.hj m l s).b6 k q=if k=m/\q=l then s else A.b6 k q:=λ_ _=>rfl
 refine⟨λk a p b=>?_,λk a hm=>⟨(l2 k a hm).1,λp b=>?_⟩,λk a p b=>?_,np,λp b=>?_,oi,λk c a d p b=>?_⟩
 ·grind
 ·rw[e];split
  ·rename_i g;intro f;have hm:A.cX k=true:=hm;rw[j f g.1.symm k a]at hm;cases hm
  ·exact(l2 k a hm).2 p b
 ·rw[e];split
  ·exact n
  ·exact lf k a p b
 ·rw[e];split
  ·rename_i g;exactλi=>o i g.1.symm
  ·exact mu p b
 ·rw[e];split
  ·rename_i g;have:=mv k c a d p b
   grind
  ·exact mv k c a d p b
theorem e8.vL (h:e8 E A)(f:h4 E A)(d:∀ p ∈ bD E,A.b6 0 (bz p)≠0)(m:Nat):e8 E (A.j9 m):=by
 obtain⟨fz,l2,lf,np,mu,oi,mv⟩:=h;have up:∀ k,A.cX k=true->(A.j9 m).cX k=true:=λk b=>by grind[bn.j9]
 exact⟨fz,λk b e=>⟨f,d⟩,λk b p d e c a=>up c (lf k b p d e c a),λk b e c a=>up c (np k b e c a),mu,oi,mv⟩
theorem e8.vm (h:e8 E A)(l:iJ E A)(i:m=0->q1 E A)(j:1<=m->∀ p ∈ bD E,A.b6 m (bz p)=2):e8 E (A.l1 m):=by
 obtain⟨fz,l2,lf,np,mu,oi,mv⟩:=h;have e:∀ k,(A.l1 m).dO k=if k=m then true else A.dO k:=λ_=>rfl
 have up:∀ k,A.dO k=true->(A.l1 m).dO k=true:=λk c=>by grind
 refine⟨fz,l2,lf,λk c _=>l,λp d f=>up 0 (mu p d f),λb k a c=>?_,λk a c b p d=>?_⟩
 ·rw[e]at b;by_cases g:0=m
  ·exact up k (i g.symm k a c)
  grind
 ·rw[e]at b;by_cases g:k=m
  ·rw[g];exact j (by omega) p d
  ·rw[aQ g]at b;exact mv k a c b p d
theorem w2 {l s:Nat}(h:A.b6 m l=2->s=2):dq E A (A.hj m l s):=⟨λ_ h=>h,λ_ h=>h,λ_ h=>h,λ_ h=>h,λk q e=>by
 show(if k=m/\q=l then s else A.b6 k q)=2
 grind⟩
theorem Fl:dq E A (A.j9 m):=⟨λk h=>by grind[bn.j9],λ_ h=>h,λ_ h=>h,λ_ h=>h,λ_ _ h=>h⟩
theorem Fm:dq E A (A.l1 m):=⟨λ_ h=>h,λk h=>by grind[bn.l1],λ_ h=>h,λ_ h=>h,λ_ _ h=>h⟩
theorem P3:dq E A (A.qA m):=⟨λ_ h=>h,λ_ h=>h,λk h=>by grind[bn.qA],λ_ h=>h,λ_ _ h=>h⟩
theorem P4:dq E A (A.pC m):=⟨λ_ h=>h,λ_ h=>h,λ_ h=>h,λk h=>by grind[bn.pC],λ_ _ h=>h⟩
theorem Fo {t:Int}:dq E A (A.pD t):=⟨λ_ h=>h,λ_ h=>h,λ_ h=>h,λ_ h=>h,λ_ _ h=>h⟩
end
section
variable {E:Env}{A:bn}{ns:List aD}{m:Nat}{x:aD}
theorem Mem.wr (h:Mem E A m x)(au:b8 E){a:Nat}{ws:a7}(b:a+ws.length<=E.L*8):n3 a ws.length x (x.write a ws):=
 ⟨zC (by rw[h.aT.len];exact b),rfl,λi c=>by rw[rR (by rw[h.aT.len];exact b),aQ (by omega)]⟩
theorem b8.jG {E:Env}(h:b8 E):784<=E.L*8:=by have:=h.e.L;omega
theorem Mem.vL (au:b8 E)(h:Mem E A m x):Mem E (A.j9 m) m (x.write 48 [iH E]):=by
 have b:=au.jG;have g:=rR (n:=x) (a:=48) (ws:=[iH E]) (by rw[h.aT.len];grind);refine h.low au (h.wr au (by grind)) (by omega) (by simp) (λ_ _=>rfl) rfl (.inl (by omega)) ?_ ?_ (λe=>?_) λb k c=>?_
 ·rw[g,aQ (by simp)];exact h.dO
 ·rw[g,bh (by simp)];simp[bn.j9]
 ·rw[g,aQ (by simp)];exact h.dM e
 ·rw[g,aQ (by grind)];exact h.fH b k c
theorem Mem.YA (au:b8 E)(h:Mem E A m x)(d:A.cX m=false):Mem E A m (x.write 48 [0]):=by
 have b:=au.jG;have g:=rR (n:=x) (a:=48) (ws:=[0]) (by rw[h.aT.len];grind);refine h.low au (h.wr au (by grind)) (by omega) (by simp) (λ_ _=>rfl) rfl (.inl (by omega)) ?_ ?_ (λe=>?_) λb k c=>?_
 ·rw[g,aQ (by simp)];exact h.dO
 ·grind
 ·rw[g,aQ (by simp)];exact h.dM e
 ·rw[g,aQ (by grind)];exact h.fH b k c
theorem Mem.vm (au:b8 E)(h:Mem E A m x):Mem E (A.l1 m) m (x.write 32 [dt E]):=by
 have b:=au.jG;have g:=rR (n:=x) (a:=32) (ws:=[dt E]) (by rw[h.aT.len];grind);refine h.low au (h.wr au (by grind)) (by omega) (by simp) (λ_ _=>rfl) rfl (.inr (by simp)) ?_ ?_ (λe=>?_) λb k c=>?_
 ·rw[g,bh (by simp)];simp[bn.l1]
 ·rw[g,aQ (by simp)];exact h.cX
 ·rw[g,aQ (by simp)];exact h.dM e
 ·rw[g,aQ (by grind)];exact h.fH b k c
theorem Mem.new (au:b8 E)(h:Mem E A m x){p:aN}(b:p ∈ bD E):Mem E (A.hj m (bz p) 2) m (x.write (bz p*8) (jU p)):=by
 have d:=au.pl b;refine h.gP au b (h.wr au (a:=bz p*8) (ws:=jU p) (by show bz p*8+8<=_;omega)) λk c=>?_
 rw[rR (by rw[h.aT.len];show bz p*8+8<=_;omega),bh (by show bz p*8<=bz p*8+k/\bz p*8+k<bz p*8+8;omega)]
 grind
theorem Mem.st (h:Mem E A m x)(au:b8 E){a:Nat}(b:a<E.L*8)(v:Int):n3 a 1 x {x with words:=x.words.set a v}/\∀ i,({x with words:=x.words.set a v}:aD).get i=if i=a then v else x.get i:=by have g:=PZ (n:=x) (a:=a) (by rw[h.aT.len];exact b) v;exact⟨⟨by simp,rfl,λi c=>by grind⟩,g⟩
theorem Mem.Ul (au:b8 E)(h:Mem E A m x){p:aN}(d:p ∈ bD E)(e:A.b6 m (bz p)=0):Mem E (A.hj m (bz p) 1) m {x with words:=x.words.set (bz p*8) (dK p.Head 0)}:=by have n:=au.pl d;obtain⟨c,g⟩:=h.st au (a:=bz p*8) (by omega) (dK p.Head 0);have b:=h.b6 p d;rw[e]at b;refine h.gP au d ⟨c.len,c.down,λi l=>c.get i (by omega)⟩ ⟨by grind,λk j f=>?_⟩;rw[g,aQ (by omega)];exact b k f
theorem Mem.mG (au:b8 E)(h:Mem E A m x){p:aN}(c:p ∈ bD E)(f:A.b6 m (bz p)=1):Mem E (A.hj m (bz p) 0) m {x with words:=x.words.set (bz p*8) p.Head}:=by
 have n:=au.pl c;obtain⟨d,g⟩:=h.st au (a:=bz p*8) (by omega) p.Head;have b:=h.b6 p c;rw[f]at b;refine h.gP au c ⟨d.len,d.down,λi l=>d.get i (by omega)⟩ λk j=>?_
 by_cases e:k=0
 ·subst e;rw[g,bh (by omega)];exact au.bp.head p c
 ·rw[g,aQ (by omega)];exact b.2 k (by omega) j
theorem Mem.Br (au:b8 E)(h:Mem E A m x):Mem E (A.pC m) m {x with words:=x.words.set 24 2}:=by
 have n:=au.jG;obtain⟨o,g⟩:=h.st au (a:=24) (by omega) 2;have b:∀ i,i≠24->({x with words:=x.words.set 24 2}:aD).get i=x.get i:=λi t=>by grind
 refine⟨⟨h.aT.up,o.len.trans h.aT.len,(b 0 (by omega)).trans h.aT.key,(b 1 (by omega)).trans h.aT.eX,by rw[g,bh rfl];simp[bn.pC],λc d f=>by rw[b _ (by omega)];exact h.aT.fJ c d f⟩,λp q=>(h.b6 p q).g0 o (by have:=au.pl q;omega),λl d r s k j=>by rw[b _ (by omega)];exact h.gb l d r s k j,λc d f=>by rw[b _ (by omega)];exact h.cE c d f,by rw[b _ (by omega)];exact h.dO,by rw[b _ (by omega)];exact h.cX,λe=>by rw[b _ (by omega)];exact h.dM e,λn k j=>by rw[b _ (by omega)];exact h.fH n k j⟩
theorem Mem.tag (au:b8 E)(h:Mem E A 0 x)(t:Int):Mem E (A.pD t) 0 {x with words:=x.words.set 49 t}:=by
 have b:=au.jG;obtain⟨c,g⟩:=h.st au (a:=49) (by omega) t;refine h.low au c (by omega) (by omega) (λ_ _=>rfl) rfl (.inl (by omega)) ?_ ?_ (λe=>?_) λb k d=>?_
 ·rw[g,aQ (by omega)];exact h.dO
 ·rw[g,aQ (by omega)];exact h.cX
 ·rw[g,bh rfl];rfl
 ·rw[g,aQ (by omega)];exact h.fH b k d
theorem Mem.dR (au:b8 E)(h:Mem E A m x){p:aN}(b:p ∈ bD E)(d:A.b6 m (bz p)<=2):(A.b6 m (bz p)=0->x.get (bz p*8)=p.Head)/\(x.get (bz p*8)=dK p.Head 0↔A.b6 m (bz p)=1):=by
 have a:=h.b6 p b;have c:=au.bp;have i:=c.head p b;have f:=(c.Uk p b 0 (by omega)).1;have j:=au.Uj p b;generalize k:A.b6 m (bz p)=s at a d ⊢
 match s,a,d with
 | 0,a,_=>
  have e:=a 0 (by omega)
  grind
 | 1,a,_=>exact⟨λe=>(by cases e),⟨λ_=>rfl,λ_=>a.1⟩⟩
 | 2,a,_=>
  have e:=a 0 (by omega);rw[mJ]at e;have g:x.get (bz p*8)=mO p.Head:=e
  grind
end
end Go.Proofs.YtmkljjbioomepaaGreat
namespace Go.Proofs.YtmkljjbioomepaaGreat
open Go.bJ dF
def c9 (m:Nat)(a o w:Int):bc:=⟨3,(m:Int),a,0,o,w,[],1,1⟩
def cb (m:Nat)(a k:Int):bc:=⟨1,(m:Int),a,k,0,0,[],1,1⟩
theorem lo {n L m:Nat}{a o w:Int}(i:n<=5)(hm:m<n)(f:1<=L/\L<=256)(g:24<=a)(e:a+1<=L*8):e9 n L (c9 m a o w):=by
 refine⟨λk h d=>?_,⟨by show(0:Int)<=m;omega,by show(m:Int)<n;omega⟩,rfl,rfl⟩;have b:(c9 m a o w).v.count=1:=rfl;have c:(c9 m a o w).v.inside k L=true:=by unfold aG.inside aG.fz aG.hI;rw[b];apply wq;show 1<=k/\k<=5/\1<=(L:Int)/\(L:Int)<=256/\0<=(m:Int)/\(m:Int)<k/\0<=a/\a<(L:Int)*8/\(1:Int)<=1024/\(a+1-1) / 8<(L:Int)/\(a+1-1) / 8-a / 8<128;omega
 unfold aG.valid;rw[b,aQ (by omega),c,aQ (by simp),aQ];unfold aG.fz aG.hI aG.last
 grind
theorem mE {n L m:Nat}{a c:Int}(l:n<=5)(hm:m<n)(h:1<=L/\L<=256)(i:0<=a)(f:1<=c/\c<=1000)(g:a+c<=L*8)(o:32<=a\/a+c<=32):e9 n L (cb m a c):=by
 refine⟨λk j e=>?_,⟨by show(0:Int)<=m;omega,by show(m:Int)<n;omega⟩,rfl,rfl⟩;have b:(cb m a c).v.count=c:=rfl;have d:(cb m a c).v.inside k L=true:=by unfold aG.inside aG.fz aG.hI;rw[b];apply wq;show 1<=k/\k<=5/\1<=(L:Int)/\(L:Int)<=256/\0<=(m:Int)/\(m:Int)<k/\0<=a/\a<(L:Int)*8/\c<=1024/\(a+c-1) / 8<(L:Int)/\(a+c-1) / 8-a / 8<128;omega
 unfold aG.valid;rw[b,aQ (by omega),d,aQ (by simp),aQ];unfold aG.fz aG.hI aG.last;rw[b];show¬ (a / 8<=(if(1:Int)=1 then 3 else 2)/\(if(1:Int)=1 then 3 else 2)<(a+c-1) / 8)
 grind
theorem w3:∀ (f:Nat) (a c:Int),a % 8=0->c<=f->∀ e:Nat,(hT f a c)[e]?=if 8*(e:Int)<c then some (a+8*e,if 8<c-8*e then 8 else c-8*e)else none
 | 0,a,c,d,h,e=>by rw[aQ (by omega)];rfl
 |f+1,a,c,d,h,e=>by
  unfold hT;by_cases g:c<=0
  ·grind
  rw[aQ g,d];by_cases b:8-0<c
  ·rw[bh b];cases e with
   |zero=>
    simp_all
   |succ e=>
    rw[zt,w3 f _ _ (by omega) (by omega) e]
    grind
  ·rw[aQ b];cases e with
   |zero=>
    grind
   |succ e=>
    rw[zt,aQ (by omega)];cases f with
    |zero=>rfl
    |succ f=>unfold hT;grind
section
variable {p:cH}{x:aD}{e2:a_}{m:Nat}
theorem AW {a:Nat}{ws:a7}(r:gu p)(h:p.a1=ca m a ws::e2)(t:p.refusal (ca m a ws) x=0)(y:a % 8=0)(s:p.words=[])(C:a+ws.length<=x.words.length) :
  8*p.b4<ws.length/\(p.step x).2.1=x.write (a+8*p.b4) ((ws.drop (8*p.b4)).take 8)/\n3 a ws.length x (p.step x).2.1/\(∀ k,k<ws.length->8*p.b4<=k/\k<8*(p.b4+1)\/x.get (a+k)=ws.getD k 0->(p.step x).2.1.get (a+k)=ws.getD k 0)/\
   ((8*(p.b4+1)<ws.length/\(p.step x).1={p with b4:=p.b4+1}/\(p.step x).2.2=none)\/(ws.length<=8*(p.b4+1)/\(p.step x).1=p.done/\(p.step x).2.2=some ⟨0,[]⟩)):=by
 have o:=r.ih _ _ h;have b:(ca m a ws).v.count=ws.length:=rfl;have z:∀ e:Nat,(ca m a ws).v.pieces[e]?=if 8*(e:Int)<ws.length then some ((a:Int)+8*e,if 8<(ws.length:Int)-8*e then 8 else(ws.length:Int)-8*e)else none:=λe=>by unfold aG.pieces;rw[b];exact w3 _ _ _ (by show(a:Int) % 8=0;omega) (by omega) e
 have hlen:∀ e:Nat,e<(ca m a ws).v.pieces.length↔8*e<ws.length:=λe=>by
  grind
 have q:=(hlen _).1 o;have l:(ca m a ws).v.pieces.getD p.b4 (0,0)=((a:Int)+8*p.b4,if 8<(ws.length:Int)-8*p.b4 then 8 else(ws.length:Int)-8*p.b4):=by
  grind
 have w:exec (ca m a ws) ((ca m a ws).v.pieces.getD p.b4 (0,0)) x=(x.write (a+8*p.b4) ((ws.drop (8*p.b4)).take 8),[]):=by
  rw[l];unfold exec;rw[aQ (show¬ (ca m a ws).kind=1 by show¬ (2:Int)=1;omega),bh (show(ca m a ws).kind=2 from rfl)];show(x.write ((a:Int)+8*p.b4).toNat ((ws.drop ((a:Int)+8*p.b4-(a:Int)).toNat).take (if 8<(ws.length:Int)-8*p.b4 then(8:Int)else(ws.length:Int)-8*p.b4).toNat),([]:a7))=_;have e:(ws.drop (8*p.b4)).take (if 8<(ws.length:Int)-8*p.b4 then(8:Int)else(ws.length:Int)-8*p.b4).toNat=(ws.drop (8*p.b4)).take 8:=by
   grind[List.take_of_length_le,List.length_drop]
  grind
 have f:=uE h t;rw[w,s]at f;have u:((ws.drop (8*p.b4)).take 8).length<=8/\a+8*p.b4+((ws.drop (8*p.b4)).take 8).length<=a+ws.length:=by grind
 have g:=rR (n:=x) (a:=a+8*p.b4) (ws:=(ws.drop (8*p.b4)).take 8) (by omega);have j:(p.step x).2.1=x.write (a+8*p.b4) ((ws.drop (8*p.b4)).take 8):=by grind
 refine⟨q,j,?_,λk B d=>?_,?_⟩
 ·rw[j];exact⟨zC (by omega),rfl,λi A=>by rw[g,aQ (by omega)]⟩
 ·rw[j,g];by_cases c:a+8*p.b4<=a+k/\a+k<a+8*p.b4+((ws.drop (8*p.b4)).take 8).length
  ·rw[bh c,show a+k-(a+8*p.b4)=k-8*p.b4 by omega];simp only[hO];rw[Zw (by omega),uo]
   simp_all
  ·rw[aQ c];rcases d with d | d
   ·exfalso;simp at c <;> omega
   grind
 grind
theorem S' {a k:Nat}(j:gu p)(f:p.a1=cb m a k::e2)(n:p.refusal (cb m a k) x=0)(i:a % 8=0\/k=1)(l:p.words=(x.words.drop a).take (8 * p.b4))(s:a+k<=x.words.length) :
  (p.step x).2.1=x/\(((p.step x).1={p with b4:=p.b4+1,words:=(x.words.drop a).take (8*(p.b4+1))}/\(p.step x).2.2=none)\/((p.step x).1=p.done/\(p.step x).2.2=some ⟨0,(x.words.drop a).take k⟩)):=by
 have g:=j.ih _ _ f;have b:(cb m a k).v.count=k:=rfl;have h:=uE f n;by_cases c:k=1
 ·subst c;have d:(cb m a (1:Nat)).v.pieces=[((a:Int),1)]:=pk (v:=(cb m a (1:Nat)).v) (by grind) (by grind) (by show(0:Int)<=a;omega)
  grind[exec,cb,aD.read]
 have i:a % 8=0:=i.resolve_right c;have r:∀ e:Nat,(cb m a k).v.pieces[e]?=if 8*(e:Int)<k then some ((a:Int)+8*e,if 8<(k:Int)-8*e then 8 else(k:Int)-8*e)else none:=λe=>by unfold aG.pieces;rw[b];exact w3 _ _ _ (by show(a:Int) % 8=0;omega) (by omega) e
 have hlen:∀ e:Nat,e<(cb m a k).v.pieces.length↔8*e<k:=λe=>by
  grind
 have q:=(hlen _).1 g;have d:(cb m a k).v.pieces.getD p.b4 (0,0)=((a:Int)+8*p.b4,if 8<(k:Int)-8*p.b4 then 8 else(k:Int)-8*p.b4):=by
  grind
 have hw:p.words++(exec (cb m a k) ((cb m a k).v.pieces.getD p.b4 (0,0)) x).2=(x.words.drop a).take (min (8*(p.b4+1)) k):=by
  rw[d,l];unfold exec;rw[bh (show(cb m a k).kind=1 from rfl)];simp only[aD.read];rw[show((a:Int)+8*p.b4).toNat=a+8*p.b4 by omega,<-wu,<-List.take_add]
  grind
 have o:(exec (cb m a k) ((cb m a k).v.pieces.getD p.b4 (0,0)) x).1=x:=by unfold exec;rw[bh (show(cb m a k).kind=1 from rfl)]
 grind
theorem u1 {a:Nat}{o w:Int}(c:gu p)(b:p.a1=c9 m a o w::e2)(e:p.refusal (c9 m a o w) x=0):p.step x=(p.done,x.dr a o w,some ⟨0,[x.get a]⟩):=by have d:(c9 m a o w).v.pieces=[((a:Int),1)]:=pk (v:=(c9 m a o w).v) (by show(1:Int)<=1;omega) (by show(a:Int) % 8+1<=8;omega) (by show(0:Int)<=a;omega);rw[EZ c b e d,Pq rfl];rfl
theorem AK {v:bc}(a:p.a1=v::e2)(b:p.refusal v x≠0):p.step x=(p.done,x,some ⟨p.refusal v x,[]⟩):=by
 unfold cH.step
 grind
end
end Go.Proofs.YtmkljjbioomepaaGreat
namespace Go.Proofs.YtmkljjbioomepaaGreat
open Go.bJ
def pI (i:Int):Bool:=decide (1<=i/\i<=59) && (Int.tmod i 2 == 1)
def gJ (i c:Int):Int:=if pI i=false then 2 else if¬ (0<=c/\c<6)then 1 else 0
def gY (i c:Int):Int:=if gJ i c=0 then i*256+(c+1)else 0
def l5 (t:Int):Int:=if gJ (t / 256) (t % 256-1)=0 then t / 256 else 0
def l6 (t:Int):Int:=if gJ (t / 256) (t % 256-1)=0 then t % 256-1 else 0
def nJ (t:Int):Bool:=decide (gJ (t / 256) (t % 256-1)=0)
theorem wa {i c:Int}(h:gJ i c=0):(1<=i/\i<=59)/\0<=c/\c<6:=by
 unfold gJ at h;split at h
 ·cases h
 ·rename_i a;split at h
  ·cases h
  ·rename_i b;have b:0<=c/\c<6:=by grind
   have a:pI i=true:=by grind
   unfold pI at a
   grind
theorem Ps {i c:Int}(h:59<i):gJ i c=2:=by
 unfold gJ;rw[bh]
 grind[pI,decide_eq_false]
theorem Rp {i c:Int}(h:gJ i c=0):jV .u64 (iQ .u64 (IntKind.u64.wrap i) 8) (IntKind.u64.wrap (IntKind.i64.wrap (c+1)))=i*256+(c+1):=by
 obtain⟨⟨e,f⟩,g,j⟩:=wa h;rw[bI (x:=c+1) (by omega) (by omega),ly (x:=c+1) (by omega) (by omega),ly (x:=i) (by omega) (by omega)];have a:iQ .u64 i 8=i*256:=by
  show IntKind.u64.wrap (i*2 ^ 8)=_
  grind[ly]
 rw[a];obtain⟨n,rfl⟩:=oN (show 0<=i by omega);obtain⟨m,hm⟩:=oN (show 0<=c+1 by omega);rw[hm];have b:(n:Int)*256=((n*256:Nat):Int):=(Int.natCast_mul n 256).symm;rw[b,uB _ _ (by omega) (by omega)];have d:=xb n m 8 (by omega)
 grind
theorem zM (w:an)(x a b:Int):a5 141 [.int .i64 x,.int .i64 a,.int .i64 b] w λv w'=>v=.bool (decide (a<=x/\x<=b))/\w'=w:=by
 refine ba Tryz.func141 ?_
 grind[IZ]
theorem Rq (w:an)(i:Int):a5 178 [.int .i64 i] w λv w'=>v=.bool (pI i)/\w'=w:=by
 refine ba Tryz.func178 ?_;rw[KY];refine aB (zM w i 1 59) ?_
 grind[pI]
theorem NH (w:an)(c:Int):a5 158 [.int .i64 c] w λv w'=>v=.bool (decide (0<=c/\c<6))/\w'=w:=by
 refine ba Tryz.func158 ?_;rw[Jz];refine aB (zM w c 0 5) ?_
 grind
abbrev P5 (w:an)(i c:Int):cM:=λx w'=>x=.tuple #[.int .u64 (gY i c),.int .i64 (gJ i c)]/\w'=w
theorem Pt {i c:Int}(h:pI i=false):gY i c=0/\gJ i c=2:=by
 have e:gJ i c=2:=bh h;refine⟨?_,e⟩;unfold gY
 grind
theorem Pu {i c:Int}(h:pI i=true)(a:¬ (0<=c/\c<6)):gY i c=0/\gJ i c=1:=by
 have e:gJ i c=1:=by unfold gJ;grind
 refine⟨?_,e⟩;unfold gY
 grind
theorem Gn {i c:Int}(h:pI i=true)(a:0<=c/\c<6):gJ i c=0:=by unfold gJ;grind
theorem z6 {i c:Int}(h:gJ i c=0):gY i c=i*256+(c+1):=bh h
theorem xg (w:an)(i c:Int):a5 128 [.int .i64 i,.int .i64 c] w (P5 w i c):=by
 refine ba Tryz.func128 ?_;rw[LB];refine aB (Rq w i) ?_;rintro v w1 ⟨rfl,rfl⟩;refine⟨_,rfl,eF (λb=>?_) (λd=>?_)⟩
 ·grind[Pt]
 refine aB (NH w1 c) ?_;rintro v f ⟨rfl,rfl⟩;refine⟨_,rfl,eF (λb=>?_) (λa=>?_)⟩
 ·grind[Pu,of_decide_eq_false]
 ·have e:=Gn d (qK a)
  grind[Rp,z6]
abbrev NI (w:an)(t:Int):cM:=λx w'=>x=.tuple #[.int .i64 (l5 t),.int .i64 (l6 t),.bool (nJ t)]/\w'=w
theorem E0 {t:Int}(h:gJ (t / 256) (t % 256-1)≠0):l5 t=0/\l6 t=0/\nJ t=false:=⟨aQ h,aQ h,decide_eq_false h⟩
theorem zN {t:Int}(h:gJ (t / 256) (t % 256-1)=0):l5 t=t / 256/\l6 t=t % 256-1/\nJ t=true:=⟨bh h,bh h,wq h⟩
theorem Ta {t:Int}(a:cy t):c3 .u64 t 8=t / 256:=by
 show Int.fdiv t 256=_
 grind
theorem P6 (w:an):a5 198 [.int .i64 8] w λv w'=>v=.int .u64 255/\w'=w:=by refine ba Tryz.func198 ?_;rw[K5];exact⟨by decide,by rfl,rfl⟩
theorem CG (w:an){t:Int}(d:cy t):a5 177 [.int .u64 t] w (NI w t):=by
 have g:=d.1;have i:=d.2;refine ba Tryz.func177 ?_;rw[Zo];rw[Ta d];refine bb (λh=>?_) (λh=>?_)
 ·refine aB (P6 w) ?_;rintro v w1 ⟨rfl,rfl⟩;refine⟨_,rfl,?_⟩;have f:hE .u64 t 255=t % 256:=Dh g i 8 (by omega);dsimp only;rw[f,bI (x:=t / 256) (by omega) (by omega),bI (x:=t % 256) (by omega) (by omega),bI (x:=t % 256-1) (by omega) (by omega)];refine aB (xg w1 (t / 256) (t % 256-1)) ?_
  grind[E0,zN,z6]
 ·have e:gJ (t / 256) (t % 256-1)=2:=Ps (by grind);obtain⟨a,b,c⟩:=E0 (t:=t) (by grind);refine aB (xg w 0 0) ?_;rintro v k ⟨rfl,rfl⟩;have j:gJ 0 0=2:=by decide
  grind
structure bL where
 aL:Int
 inc:Int
 lines:Int
 v:jT
 dead:Int
 fJ:Int
 prev:Int
def bL.tail (j:bL):Int:=
 if j.lines<98\/256<j.lines then 18 else if j.dead=j.aL/\j.fJ≠j.inc then 1
 else if j.dead≠j.aL/\(j.fJ<2\/60<j.fJ\/Int.tmod j.fJ 2≠0)then 2
 else if j.prev≠0/\(nJ j.prev=false\/l6 j.prev=j.aL/\j.inc<=l5 j.prev\/l6 j.prev=j.dead/\j.fJ<=l5 j.prev)then 1 else 0
def bL.valid (j:bL):Int:=
 if gJ j.inc j.aL≠0 then gJ j.inc j.aL else if j.dead<0\/6<=j.dead then 1 else if j.v.valid 5≠0 then j.v.valid 5 else j.tail
structure q2 (w:an)(r:c_)(j:bL):Prop where
 aL:r.Client=j.aL
 inc:r.iN=j.inc
 lines:r.hP=j.lines
 view:∃ M,gD M w r.View j.v
 dead:r.e7=j.dead
 fJ:r.gA=j.fJ
 prev:r.il=j.prev
 u64:cy r.il
theorem q2.new {w w':an}{r:c_}{j:bL}(h:q2 w r j)(a:ai w w'):q2 w' r j:=⟨h.aL,h.inc,h.lines,h.view.imp λ_ h=>h.new a,h.dead,h.fJ,h.prev,h.u64⟩
end Go.Proofs.YtmkljjbioomepaaGreat
set_option linter.unusedSectionVars false
namespace Go.Proofs.YtmkljjbioomepaaGreat
open Go.bJ Go.RowKit
def plus (a:Act)(ds:List Deferred):Act:={a with defers:=a.defers++ds}
def m6 (ds:List Deferred)(a:ax):Act:={tmps:=a.toArray,defers:=ds}
theorem Pv (ds:List Deferred)(a:ax):plus (act a) ds=m6 ds a:=rfl
theorem lP (a:Act)(ds:List Deferred)(d:Option Tmp)(v:bf):(plus a ds).put d v=plus (a.put d v) ds:=by cases d<;>rfl
theorem zO (a:Act)(ds:List Deferred):(plus a ds).eval=a.eval:=by funext x;cases x<;>rfl
def ie (F:Fence):Prop:=F=Fence.wide\/∃ r,F=Fence.wide.inRound r
theorem C7:ie Fence.wide:=.inl rfl
theorem CH (r:Nat):ie (Fence.wide.inRound r):=.inr ⟨r,rfl⟩
section
variable {P:df}{F:Fence}{n:Nat}{ds:List Deferred}{Q jR:Exit->Act->aJ}
theorem ie.fn (h:ie F)(f:FuncId):F.fn f:=by rcases h with rfl | ⟨r,rfl⟩<;>trivial
theorem ie.depth (h:ie F):F.depth=none:=by rcases h with rfl | ⟨r,rfl⟩<;>rfl
theorem ie.fenced (h:ie F):Machine.fenced P F=Machine.fenced P Fence.wide:=by rcases h with rfl | ⟨r,rfl⟩<;>rfl
theorem ie.calls (h:ie F){f:FuncId}{args:ep}{w:an}{R:Ending->aJ}(k:Calls P f args w R):CallsIn F n P f args w R:=by
 rcases h with rfl | ⟨r,rfl⟩
 ·exact callsIn_wide.2 k
 ·exact CallsIn.inRound r (callsIn_wide.2 k)
theorem ie.rows (h:ie F){row:String}{args:ep}{w:an}{R:cM}(k:Rows P row args w R):RowsIn F n P row args w R:=by intro c cs _;obtain⟨v,w',r,s⟩:=k c cs;exact⟨v,w',r,by rw[h.fenced];exact stepsIn_wide.2 s⟩
def tt (o:Oper):Bool:=match o.op with
 |.defer _=>false
 | _=>true
theorem ie.Jm (h:ie F){o:Oper}(d:tt o=true)(a:Operand->bf):o.semAt F.round a=execOp a o:=by
 rcases h with rfl | ⟨r,rfl⟩
 ·exact Oper.semAt_none _ _
 ·exact Oper.semAt_some _ _ _ λc b=>by grind[tt]
theorem ie.one (h:ie F):F.depth.isSome=true->1<=n:=λa=>by rw[h.depth]at a;cases a
theorem Q7 (b:ie F){o:Oper}{a:Act}{next next':Act->aJ}(g:∀ a w,next a w->next' (plus a ds) w)(j:∀ c a w,¬ Q (.panic c) a w)(l:¬ LetsOut Q) :
  ∀ {x:Result Go.Next},o.upon P a next Q x->o.uponIn F n P (plus a ds) next' jR x
 |.ok (.value v) w',h=>by rw[Oper.uponIn_value,lP];exact g _ _ h
 |.ok .skip w',h=>by rw[Oper.uponIn_skip,lP];exact g _ _ h
 |.ok (.defer d) w',h=>by rw[Oper.uponIn_defer];have e:({plus a ds with defers:=d::(plus a ds).defers}:Act)=plus {a with defers:=d::a.defers} ds:=rfl;rw[e,lP];exact g _ _ h
 |.ok (.enter f args) w',h=>by
  rw[Oper.uponIn_enter];refine⟨b.one,b.calls (Calls.mono h λe i k=>?_)⟩
  grind[plus,lP]
 |.ok (.row row args) w',h=>by
  rw[Oper.uponIn_row];refine⟨b.one,b.rows (Rows.mono h λv i k=>?_)⟩
  grind[lP]
 |.ok (.round ..) w',h=>h.elim
 |.halt (.panic v) w',h=>cp h (j _ _ _)
 |.halt .blocked _,h=>h.elim
 |.halt .waiting _,h=>h.elim
 |.halt (.exit _) _,h=>h.elim
 |.halt (.stuck _) _,h=>h.elim
 |.halt (.unsupported _) _,h=>h.elim
theorem Gp (e:ie F){md:Region.Mode}{ops:Array Oper}(k:∀ o ∈ ops.toList,tt o=true)(j:∀ a w,Q .normal a w->jR .normal (plus a ds) w)(p:∀ c a w,¬ Q (.panic c) a w)(l:¬ LetsOut Q) :
  ∀ (fuel:Nat) (b:Array Bool) (a:Act) (w:an),wpAny P md ops Q fuel b a w->wpAnyIn F n P md ops jR fuel b (plus a ds) w
 | 0,b,a,w,h=>⟨h.1,j _ _ h.2⟩
 |fuel+1,b,a,w,h=>by
  refine⟨λs=>j _ _ (h.1 s),λi q=>?_⟩;have d:=h.2 i q;have u:=Gp (md:=md) e k j p l fuel (b.setIfInBounds i true);unfold wpOp at d;unfold wpOpIn;cases r:ops[i]? with
  |none=>
   grind
  |some o=>
   simp only[r]at d ⊢;have g:o ∈ ops.toList:=by
    grind
   have t:(plus a ds).tmps=a.tmps:=rfl;rw[t];split at d
   ·rename_i hw;rw[bh hw];refine⟨λf _=>e.fn f,?_⟩;rw[e.Jm (k o g),zO];rcases d with d | ⟨_,d⟩
    ·exact Q7 e u p l d
    grind
   ·rename_i hw;rw[aQ hw];refine⟨λf _=>e.fn f,?_⟩
    grind[lP]
theorem NJ (b:ie F){o:Oper}{a:Act}{next next':Act->aJ}(g:∀ a w,next a w->next' (plus a ds) w)(p:∀ c a w,¬ Q (.panic c) a w)(r:¬ LetsOut Q) :
  ∀ {x:Result Go.Next},o.uponIn Fence.wide 0 P a next Q x->o.uponIn F n P (plus a ds) next' jR x
 |.ok (.value v) w',h=>by rw[Oper.uponIn_value,lP];exact g _ _ h
 |.ok .skip w',h=>by rw[Oper.uponIn_skip,lP];exact g _ _ h
 |.ok (.defer d) w',h=>by rw[Oper.uponIn_defer];have e:({plus a ds with defers:=d::(plus a ds).defers}:Act)=plus {a with defers:=d::a.defers} ds:=rfl;rw[e,lP];exact g _ _ h
 |.ok (.enter f args) w',h=>by
  rw[Oper.uponIn_enter];refine⟨b.one,b.calls (Calls.mono (callsIn_wide.1 h.2) λe q k=>?_)⟩
  grind[plus,lP]
 |.ok (.row row args) w',h=>by
  rw[Oper.uponIn_row];refine⟨b.one,λc cs _=>?_⟩;obtain⟨v,j,k,i⟩:=h.2 c cs (room_wide _);refine⟨v,j,?_,by rw[b.fenced];exact i⟩
  grind[plus,lP]
 |.ok (.round l f tmps assign body) w',h=>by
  rw[Oper.uponIn_round];refine⟨b.one,b.fn _,λc cs _=>?_⟩;obtain⟨e,j,k,i⟩:=h.2.2 c cs (room_wide _);refine⟨e,j,?_,by rw[b.fenced];exact i⟩
  grind[plus,lP]
 |.halt (.panic v) w',h=>cp h (p _ _ _)
 |.halt .blocked _,h=>h.elim
 |.halt .waiting _,h=>h.elim
 |.halt (.exit _) _,h=>h.elim
 |.halt (.stuck _) _,h=>h.elim
 |.halt (.unsupported _) _,h=>h.elim
theorem Fp (b:ie F){ops:Array Oper}(e:∀ a w,Q .normal a w->jR .normal (plus a ds) w)(k:∀ c a w,¬ Q (.panic c) a w)(i:¬ LetsOut Q) :
  ∀ (l:gK) (a:Act) (w:an),(∀ o ∈ l,tt o=true)->wpListIn Fence.wide 0 P ops Q l a w->wpListIn F n P ops jR l (plus a ds) w
 | [],a,w,_,h=>e _ _ h
 |o::l,a,w,d,h=>by
  have p:=λa w=>Fp b (ops:=ops) e k i l a w λo j=>d o (fG _ j)
  unfold wpListIn at h ⊢;split at h
  ·rename_i hw;show(if Region.wanted o (yielded ops a.tmps)then _ else _);rw[bh hw];refine⟨λf _=>b.fn f,?_⟩;have g:=h.2;rw[show Fence.wide.round=none from rfl,Oper.semAt_none]at g;rw[b.Jm (d o fR),zO]
   grind[NJ]
  ·rename_i hw;show(if Region.wanted o (yielded ops a.tmps)then _ else _);rw[aQ hw];refine⟨λf _=>b.fn f,?_⟩
   grind[lP]
end
def mT (ds:List Deferred)(Q:Exit->ax->aJ):Exit->Act->aJ
 |.panic _,_,_=>False
 |.outgrown,_,_=>False
 |e,a,w=>a.defers=ds/\Q e a.tmps.toList w
theorem hq {ds:List Deferred}{Q:Exit->ax->aJ}{e:Exit}{env:ax}{w:an}(h:Q e env w)(he:(∀ c,e≠.panic c)/\e≠.outgrown):mT ds Q e (m6 ds env) w:=by
 cases e with
 |panic c=>grind
 |outgrown=>grind
 | _=>exact⟨rfl,by grind[m6]⟩
theorem ni {ds:List Deferred}{Q:Exit->ax->aJ}{e:Exit}{a:Act}{w:an}(h:mT ds Q e a w):((∀ c,e≠.panic c)/\e≠.outgrown)/\∃ env,a=m6 ds env/\Q e env w:=by
 have mk:∀ (a:Act),a.defers=ds->a=m6 ds a.tmps.toList:=λa b=>by
  cases a with
  |mk t d=>simp only at b;subst b;simp[m6]
 cases e with
 |panic c=>exact h.elim
 |outgrown=>exact h.elim
 |normal=>exact⟨⟨λ_=>by simp,by simp⟩,_,mk a h.1,h.2⟩
 |exit i=>exact⟨⟨λ_=>by simp,by simp⟩,_,mk a h.1,h.2⟩
 |goto i=>exact⟨⟨λ_=>by simp,by simp⟩,_,mk a h.1,h.2⟩
 |ret=>exact⟨⟨λ_=>by simp,by simp⟩,_,mk a h.1,h.2⟩
def k':Code->Bool
 |.region _ ops _=>ops.toList.all tt
 |.seq a b=>k' a && k' b
 |.cond _ a b=>k' a && k' b
 |.block _ c=>k' c
 |.skip=>true
 |.exit _=>true
 |.ret=>true
 | _=>false
theorem Tb (ds:List Deferred)(a:ax):(m6 ds a).eval=cf a:=by rw[<-Pv,zO,tR]
theorem NK {P:df}{ops:gK}{env:ax}{K:ax->aJ}{Q:Exit->Act->aJ}{w:an}(d:Region.noSelect ops.toArray=true)
  (b:∀ env w,K env w->Q .normal (act env) w) (dQ:∀ c a w,¬ Q (.panic c) a w) (h:uY P ops env K w):wpAny P .any ops.toArray Q ops.toArray.size (Array.replicate ops.toArray.size false) (act env) {w with drawn:=w.drawn+1}:=by
 unfold uY at h;split at h
 ·obtain⟨S,e,h⟩:=h _ rfl;refine vW (S:=S) (nd:=xq ops (Af ops)) _ _ _ _ ?_;have:=og (Em ops _) d b dQ _ _ _ _ _ (yR _ _) (λ_=>e) h
  simp_all
 ·refine vW (S:=λ_=>True) (nd:=rK ops) _ _ _ _ ?_;have:=og (Ag ops) d b dQ _ _ _ _ _ (yR _ _) (λ_=>trivial) (h _ rfl)
  simp_all
def va (K:ax->aJ):Exit->Act->aJ
 |.normal,a,w=>∃ env,a=act env/\K env w
 | _,_,_=>False
theorem n7 {P:df}(hm:P.follows .mixedOrders=true){F:Fence}(j:ie F){n:Nat}{ds:List Deferred}:∀ (c:Code) (env:ax) (Q:Exit->ax->aJ) (w:an),
  k' c=true->W P c env Q w->c.wpIn F n P (mT ds Q) (m6 ds env) w
 |.skip,env,Q,w,d,h=>by rw[W.eq_def]at h;exact wpIn_skip (hq h ⟨λ_=>by simp,by simp⟩)
 |.region id ops draw,env,Q,w,d,h=>by
  have e:∀ a w,va (Q .normal) .normal a w->mT ds Q .normal (plus a ds) w:=by rintro _ w ⟨f,rfl,B⟩;exact hq B ⟨λ_=>by simp,by simp⟩
  have u:∀ c a w,¬ va (Q .normal) (.panic c) a w:=λc a w h=>h
  have z:¬ LetsOut (va (Q .normal)):=λ⟨_,_,h⟩=>h
  have l:∀ o ∈ ops.toList,tt o=true:=jt.1 d;rw[W.eq_def]at h;cases draw with
  |true=>
   simp only at h;split at h
   ·rename_i D;have y:=NK (Q:=va (Q .normal)) (by simp_all) (λenv w s=>⟨env,rfl,s⟩) u h;simp only[Array.toArray_toList]at y;exact wpIn_region_any hm (Gp j l e u z _ _ _ _ y)
   grind
  |false=>simp only at h;exact wpIn_region_list (Fp j e u z _ _ _ l (by simpa using pz (all:=ops.toList) (Q:=va (Q .normal)) ops.toList env w (Q .normal) (λenv w s=>⟨env,rfl,s⟩) h))
 |.seq a b,env,Q,w,d,h=>by
  rw[W.eq_def]at h;have d:(k' a && k' b)=true:=d;simp only[gL]at d;have q:=n7 hm j (n:=n) (ds:=ds) a env _ w d.1 h;refine wpIn_seq (wpIn_mono q λx A w' g=>?_);obtain⟨k,f,r,e⟩:=ni g;subst r;clear g;cases x with
  |normal=>exact n7 hm j b f Q w' d.2 e
  |panic c=>grind
  |outgrown=>grind
  |exit i=>exact hq e k
  |goto i=>exact hq e k
  |ret=>exact hq e k
 |.cond o a b,env,Q,w,d,h=>by
  rw[W.eq_def]at h;have d:(k' a && k' b)=true:=d;simp only[gL]at d;simp only at h;split at h
  ·rename_i t C;refine wpIn_cond (t:=t) (by rw[Tb];exact C) ?_;cases t with
   |true=>exact n7 hm j a env Q w d.1 h
   |false=>exact n7 hm j b env Q w d.2 h
  grind
 |.block id c,env,Q,w,d,h=>by
  rw[W.eq_def]at h;have q:=n7 hm j (n:=n) (ds:=ds) c env _ w d h;refine wpIn_block (wpIn_mono q λx A w' g=>?_);obtain⟨k,f,r,e⟩:=ni g;subst r;clear g;cases x with
  |exit i=>
   simp only[aO]at e;simp only[Exit.inBlock];cases p:Nat.beq i id with
   |true=>
    rw[p]at e;rw[bh (pL p)]
    grind[hq]
   |false=>
    rw[p]at e;rw[aQ (Co p)]
    grind[hq]
  |panic c=>grind
  |outgrown=>grind
  |normal=>exact hq e k
  |goto i=>exact hq e k
  |ret=>exact hq e k
 |.loop c,env,Q,w,d,h=>by cases d
 |.exit i,env,Q,w,d,h=>by rw[W.eq_def]at h;exact wpIn_exit (hq h ⟨λ_=>by simp,by simp⟩)
 |.ret,env,Q,w,d,h=>by rw[W.eq_def]at h;exact wpIn_ret (hq h ⟨λ_=>by simp,by simp⟩)
 |.rangeFunc ..,_,_,_,d,_=>by cases d
 |.scope _,_,_,_,d,_=>by cases d
 |.label _,_,_,_,d,_=>by cases d
 |.goto _,_,_,_,d,_=>by cases d
 |.refuse _,_,_,_,d,_=>by cases d
def k3 (Q:Exit->ax->aJ):Exit->ax->aJ
 |.exit i,env,w=>match Nat.beq i 77 with
  |true=>False
  |false=>Q (.exit i) env w
 |e,env,w=>Q e env w
def kH:Code->Bool
 |.region ..=>true
 |.seq a b=>kH a && kH b
 |.cond _ a b=>kH a && kH b
 |.block id c=>!Nat.beq 77 id && kH c
 |.skip=>true
 |.exit i=>!Nat.beq i 77
 |.ret=>true
 | _=>false
theorem z4 {N:ax->aJ}{Q:Exit->ax->aJ}:k3 (aZ N Q)=aZ N (k3 Q):=by funext e env w;cases e<;>rfl
theorem C8 {id:Nat}(h:Nat.beq 77 id=false){Q:Exit->ax->aJ}:k3 (aO id Q)=aO id (k3 Q):=by
 funext e env w;cases e with
 |exit i=>
  simp only[k3,aO]
  grind[Nat.eq_of_beq_eq_true,Nat.beq_refl]
 | _=>rfl
theorem q5 {P:df}:∀ (c:Code) (env:ax) (Q:Exit->ax->aJ) (w:an),kH c=true->W P c env (k3 Q) w=W P c env Q w
 |.skip,env,Q,w,_=>by rw[W.eq_def,W.eq_def];rfl
 |.region id ops draw,env,Q,w,_=>by rw[W.eq_def,W.eq_def];rfl
 |.seq a b,env,Q,w,h=>by have h:(kH a && kH b)=true:=h;simp only[gL]at h;rw[W.eq_def P (.seq a b),W.eq_def P (.seq a b)];show W P a env (aZ (λenv w=>W P b env (k3 Q) w) (k3 Q)) w=W P a env (aZ (λenv w=>W P b env Q w) Q) w;rw[<-z4,q5 a env _ w h.1];congr 2;funext env w;exact q5 b env Q w h.2
 |.cond c x y,env,Q,w,h=>by have h:(kH x && kH y)=true:=h;simp only[gL]at h;rw[W.eq_def P (.cond c x y),W.eq_def P (.cond c x y)];simp only[q5 x env Q w h.1,q5 y env Q w h.2]
 |.block id c,env,Q,w,h=>by have h:(!Nat.beq 77 id && kH c)=true:=h;simp only[gL,zv]at h;rw[W.eq_def P (.block id c),W.eq_def P (.block id c)];show W P c env (aO id (k3 Q)) w=W P c env (aO id Q) w;rw[<-C8 h.1,q5 c env _ w h.2]
 |.exit i,env,Q,w,h=>by
  have h:(!Nat.beq i 77)=true:=h;rw[W.eq_def,W.eq_def]
  grind[Bool.not_eq_true',k3]
 |.ret,env,Q,w,_=>by rw[W.eq_def,W.eq_def];rfl
 |.loop ..,_,_,_,h=>by cases h
 |.rangeFunc ..,_,_,_,h=>by cases h
 |.scope ..,_,_,_,h=>by cases h
 |.label ..,_,_,_,h=>by cases h
 |.goto ..,_,_,_,h=>by cases h
 |.refuse ..,_,_,_,h=>by cases h
def nZ:Code->c6->Code
 | _,[]=>.exit 77
 |.seq a b,n::p=>match n with | 0=>.seq (nZ a p) b | _=>.seq a (nZ b p)
 |.block id c,_::p=>.block id (nZ c p)
 |c,_=>c
def ra:Code->c6->Bool
 | _,[]=>true
 |.seq a b,n::p=>match n with | 0=>ra a p && (k' b && kH b) | _=>(k' a && kH a) && ra b p
 |.block id c,_::p=>!Nat.beq 77 id && ra c p
 | _,_=>false
def sF (F:Fence)(n:Nat)(P:df):Code->c6->(Exit->Act->aJ)->Exit->Act->aJ
 | _,[],Q=>Q
 |.seq a b,m::p,Q=>match m with
  | 0=>sF F n P a p (Exit.then (λa w=>b.wpIn F n P Q a w) Q)
  | _=>sF F n P b p Q
 |.block id c,_::p,Q=>sF F n P c p (Exit.inBlock id Q)
 | _,_,Q=>Q
theorem Rr {P:df}(hm:P.follows .mixedOrders=true){F:Fence}(y:ie F){n:Nat}{ds:List Deferred}:∀ (p:c6) (c:Code) (env:ax) (Q:Exit->ax->aJ) (q:Exit->Act->aJ) (w:an),
  ra c p=true->W P (nZ c p) env Q w->(∀ env w,Q (.exit 77) env w->(sub c p).wpIn F n P (sF F n P c p q) (m6 ds env) w)->
  (∀ e a w,mT ds (k3 Q) e a w->q e a w)->c.wpIn F n P q (m6 ds env) w:=by
 intro p;induction p with
 |nil=>
  intro c env Q q w g h r l;have k:W P (.exit 77) env Q w:=by cases c<;>exact h
  rw[W.eq_def]at k;have o:=r env w k;have z:sub c []=c:=by rw[sub.eq_def]
  grind[sF]
 |cons m p x=>
  intro c env Q q w g h r l;cases c with
  |seq a b=>
   cases m with
   |zero=>
    have g:(ra a p && (k' b && kH b))=true:=g;simp only[gL]at g;have k:W P (.seq (nZ a p) b) env Q w:=h;rw[W.eq_def]at k;refine wpIn_seq ?_;refine x a env _ (Exit.then (λa w=>b.wpIn F n P q a w) q) w g.1 k (λenv w o=>?_) (λe a w o=>?_)
    ·have:=r env w o;rw[sub.eq_def]at this;exact this
    ·obtain⟨d,f,rfl,j⟩:=ni o;rw[z4]at j;cases e with
     |normal=>
      have u:W P b f (k3 Q) w:=by rw[q5 b f Q w g.2.2];exact j
      exact wpIn_mono (n7 hm y b f _ w g.2.1 u) l
     |panic c=>grind
     |outgrown=>grind
     |exit i=>exact l _ _ _ (hq j d)
     |goto i=>exact l _ _ _ (hq j d)
     |ret=>exact l _ _ _ (hq j d)
   |succ m=>
    have g:((k' a && kH a) && ra b p)=true:=g;simp only[gL]at g;have k:W P (.seq a (nZ b p)) env Q w:=h;rw[W.eq_def]at k;have k:W P a env (aZ (λenv w=>W P (nZ b p) env Q w) Q) w:=k;rw[<-q5 a env _ w g.1.2,z4]at k;refine wpIn_seq (wpIn_mono (n7 hm y a env _ w g.1.1 k) λe a w o=>?_);obtain⟨d,f,rfl,j⟩:=ni o;cases e with
    |normal=>refine x b f Q q w g.2 j (λenv w t=>?_) l;have:=r env w t;rw[sub.eq_def]at this;exact this
    |panic c=>grind
    |outgrown=>grind
    |exit i=>exact l _ _ _ (hq j d)
    |goto i=>exact l _ _ _ (hq j d)
    |ret=>exact l _ _ _ (hq j d)
  |block id c=>
   have g:(!Nat.beq 77 id && ra c p)=true:=g;simp only[gL,zv]at g;have k:W P (.block id (nZ c p)) env Q w:=h;rw[W.eq_def]at k;have k:W P (nZ c p) env (aO id Q) w:=k;refine wpIn_block ?_;refine x c env (aO id Q) _ w g.2 k (λenv w o=>?_) (λe a w o=>?_)
   ·have t:Q (.exit 77) env w:=by simp only[aO,g.1]at o;exact o
    have:=r env w t;rw[sub.eq_def]at this;exact this
   ·obtain⟨d,f,rfl,j⟩:=ni o;rw[C8 g.1]at j;cases e with
    |exit i=>
     simp only[aO]at j;simp only[Exit.inBlock];cases s:Nat.beq i id with
     |true=>
      rw[s]at j;rw[bh (pL s)]
      grind[hq]
     |false=>
      rw[s]at j;rw[aQ (Co s)]
      grind[hq]
    |panic c=>grind
    |outgrown=>grind
    |normal=>exact l _ _ _ (hq j d)
    |goto i=>exact l _ _ _ (hq j d)
    |ret=>exact l _ _ _ (hq j d)
  | _=>cases g
theorem Ms {P:df}{t:bY}{x:bf}{K c:cM}{w w':an}(e:∀ bF v,w.cell? bF=some v->w'.cell? bF=some v)(g:∀ v,K v w->c v w')(h:oO P t x K w):oO P t x c w':=by
 have b:∀ (vs:ax) (bF:aU) (i:Nat),cn w bF i vs->cn w' bF i vs:=by
  intro vs;induction vs with
  |nil=>intro bF i h;exact trivial
  |cons v vs j=>intro bF i h;exact⟨e _ _ h.1,j _ _ h.2⟩
 unfold oO at h ⊢;split at h
 ·split at h
  ·grind
  ·rename_i inf f;split at h
   ·rename_i a;split at h
    ·rename_i l;exact Ei (λvs h=>⟨b _ _ _ h.1,g _ h.2⟩) h
    grind
   ·rename_i a;split at h
    ·grind
    ·rename_i d k;exact Eh (λv h=>⟨e _ _ h.1,g _ h.2⟩) h
 grind
theorem zP {P:df}{env:ax}{w w':an}(b:∀ bF v,w.cell? bF=some v->w'.cell? bF=some v):∀ (rs:List ResultVar) {K:ax->Prop},ox P rs env K w->ox P rs env K w'
 | [],K,h=>h
 |.tmp t::rs,K,h=>zP b rs h
 |.cell a t::rs,K,h=>Ms b (λv h=>⟨rfl,zP b rs h.2⟩) h
theorem Q8 {P:df}{fn:Func}{R:cM}{n D:Nat}{e:Exit}{a:Act}{w:an}{d:Ending->aJ}(k:∀ v,R v w->w.heap[D]?=some (.deferred (some []))/\d (.returned v) (w.putObj D (.deferred none)))
  (h:mT [{target:=.collected D,args:=#[]}] (dE P fn R) e a w):bodyPostM Fence.wide n P fn d e a w:=by
 have main:∀ env,ox P fn.results.toList env (λvs=>R (tG vs) w) w->LeavesInM Fence.wide n P fn env.toArray d [{target:=.collected D,args:=#[]}] .returning w:=by
  intro env h;obtain⟨vs,_,g⟩:=zi _ _ h;have j:=(k _ g).1;have q:∀ bF v,w.cell? bF=some v->(w.putObj D (.deferred none)).cell? bF=some v:=by
   intro bF v h;obtain⟨o,l,p⟩:=cells_of_cell h;have f:bF.block≠D:=by intro e;rw[e,j]at l;cases l;cases p
   rw[World.cell?_of_block (w:=w)]
   ·exact h
   ·exact World.putObj_heap_other f
  obtain⟨v,al,g⟩:=yS (P:=P) (fn:=fn) (env:=env) (w:=w.putObj D (.deferred none)) (K:=λv=>R v w) (zP q _ h);exact⟨by simp,.inl ⟨_,_,rfl,run_takeDeferred j,⟨_,al,(k v g).2⟩⟩⟩
 obtain⟨r,env,rfl,b⟩:=ni h;cases e with
 |normal=>exact main env b
 |ret=>exact main env b
 |panic c=>grind
 |outgrown=>grind
 |exit i=>exact b.elim
 |goto i=>exact b.elim
theorem Pw {P:df}{fn:Func}{R:cM}{n:Nat}{e:Exit}{a:Act}{w:an}{d:Ending->aJ}(f:∀ v,R v w->d (.returned v) w)
  (h:mT [] (dE P fn R) e a w):bodyPostM Fence.wide n P fn d e a w:=by
 have main:∀ env,ox P fn.results.toList env (λvs=>R (tG vs) w) w->LeavesInM Fence.wide n P fn env.toArray d [] .returning w:=by intro env h;obtain⟨v,al,g⟩:=yS (P:=P) (fn:=fn) (env:=env) (w:=w) (K:=λv=>R v w) h;exact⟨_,al,f v g⟩
 obtain⟨j,env,rfl,b⟩:=ni h;cases e with
 |normal=>exact main env b
 |ret=>exact main env b
 |panic c=>grind
 |outgrown=>grind
 |exit i=>exact b.elim
 |goto i=>exact b.elim
def pU (K:ax->aJ):Exit->ax->aJ
 |.exit i,env,w=>match Nat.beq i 77 with
  |true=>K env w
  |false=>False
 | _,_,_=>False
theorem Px {P:df}{fn:Func}{R:cM}{K:ax->aJ}{ds:List Deferred}{e:Exit}{a:Act}{w:an}(h:mT ds (k3 (bO P fn R (pU K))) e a w):mT ds (dE P fn R) e a w:=by
 obtain⟨f,env,rfl,b⟩:=ni h;cases e with
 |normal=>exact b.elim
 |ret=>exact hq b f
 |panic c=>grind
 |outgrown=>grind
 |exit i=>
  simp only[k3]at b;cases d:Nat.beq i 77 with
  |true=>grind
  |false=>
   rw[d]at b;have b:pU K (.exit i) env w:=b
   grind[pU]
 |goto i=>exact b.elim
end Go.Proofs.YtmkljjbioomepaaGreat
