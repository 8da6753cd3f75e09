import Derived.Test.YtmkljjbioomepaaGreatf15
import Derived.OrdersIn
import Derived.Test.YtmkljjbioomepaaGreatf04
set_option linter.all false
namespace Go.Proofs.YtmkljjbioomepaaGreat
open Go.bd
theorem Li (C:bB)(j:Nat)(l:cL)(p:db)(d:Option cW):(C.comes j l p d).alive=C.alive:=by cases d<;>rfl
theorem DZ {n:aO}{a:Nat}{ws:ba}(h:a+ws.length<=n.words.length):(n.write a ws).words.length=n.words.length:=by
 grind[aO.write]
theorem tj {n:aO}{a:Nat}{ws:ba}(h:a+ws.length<=n.words.length)(i:Nat):(n.write a ws).get i=if a<=i/\i<a+ws.length then ws.getD (i-a) 0 else n.get i:=by
 unfold aO.write aO.get
 grind
theorem P6 {n:aO}{a:Nat}(h:a<n.words.length)(v:Int)(i:Nat):({n with words:=n.words.set a v}:aO).get i=if i=a then v else n.get i:=by
 unfold aO.get
 grind
theorem Oo {n:aO}{a:Nat}(h:a<n.words.length):n.read a 1=[n.get a]:=by
 unfold aO.read;simp only[g9];rw[vR h];have b:=aO.get_some h
 grind
theorem q6 {v:aI}(c:1<=v.count)(d:v.cI % 8+v.count<=8)(b:0<=v.cI):v.pieces=[(v.cI,v.count)]:=by
 unfold aI.pieces;obtain⟨f,a⟩:∃ f,v.count.toNat=f+1:=⟨v.count.toNat-1,by omega⟩;rw[a,hC,aW (by omega)];have e:(if 8-v.cI % 8<v.count then 8-v.cI % 8 else v.count)=v.count:=by
  grind
 rw[e];cases f with
 |zero=>rfl
 |succ f=>rw[hC,bm (by omega)]
structure ic (N L:Nat)(x:bE):Prop where
 valid:∀ m:Int,N<=m->m<=5->x.v.valid m L=0
 node:0<=x.node/\x.node<N
 key:x.key=1
 eS:x.eS=1
theorem tR {p:db}{n:aO}{x:bE}{xs:bu}(ar:p.bj=x::xs)(a:p.refusal x n=0) :
  p.step n=if p.b0+1<x.v.pieces.length then({p with b0:=p.b0+1,words:=p.words++(exec x (x.v.pieces.getD p.b0 (0,0)) n).2},(exec x (x.v.pieces.getD p.b0 (0,0)) n).1,none)
   else(p.done,(exec x (x.v.pieces.getD p.b0 (0,0)) n).1,some ⟨0,p.words++(exec x (x.v.pieces.getD p.b0 (0,0)) n).2⟩):=by
 unfold db.step
 grind
theorem Ei {p:db}{n:aO}{x:bE}{xs:bu}(b:fI p)(ar:p.bj=x::xs)(d:p.refusal x n=0){pc:Int×Int}(a:x.v.pieces=[pc]):p.step n=(p.done,(exec x pc n).1,some ⟨0,(exec x pc n).2⟩):=by
 have c:=b.hL x xs ar;rw[a]at c;have he:p.b0=0:=by grind
 rw[tR ar d,a,he];simp[b.zero he]
structure pn (a k:Nat)(n n':aO):Prop where
 len:n'.words.length=n.words.length
 down:n'.down=n.down
 get:∀ i,i<a\/a+k<=i->n'.get i=n.get i
theorem N1 {x:bE}(a:x.kind=3){n:aO}(pc:Int×Int):exec x pc n=(n.gz x.at_ x.old x.new,[n.get x.at_.toNat]):=by
 unfold exec
 grind
theorem LU {x:bE}(a:x.kind=1)(b:0<=x.at_){n:aO}(c:x.at_.toNat<n.words.length):exec x (x.at_,1) n=(n,[n.get x.at_.toNat]):=by
 unfold exec;rw[bm a]
 grind[Oo]
end Go.Proofs.YtmkljjbioomepaaGreat
namespace Go.Proofs.YtmkljjbioomepaaGreat
open Go.bd
def ni (j:cJ):bu:=pJ j (fl j.a3+8) (fe j.seq j.writes)
def m6 (j:cJ):bu:=pJ j (fl j.a3) [fZ j.seq]
structure Fit (vs:bu)(ds:cw):Prop where
 len:ds.length=vs.length
 each:∀ (q:Nat) (v:bE) (d:cW),vs[q]?=some v->ds[q]?=some d->d.code=0/\(d.words.length:Int)=v.v.iK
theorem C5:∀ {ds:cw},(∀ d ∈ ds,d.code=0)->ho ds=0
 | [],_=>rfl
 |d::ds,h=>by unfold ho;rw[bm (h d g_)];exact C5 λx a=>h x (gm _ a)
theorem Fit.TC {vs:bu}{ds:cw}(h:Fit vs ds):ho ds=0:=C5 λd c=>by
 obtain⟨q,b⟩:=eP.1 c;have e:=dk b;have a:q<vs.length:=by rw[<-h.len];grind
 exact(h.each q vs[q] d (bW a) b).1
theorem Fit.ks {vs:bu}{ds:cw}(h:Fit vs ds):Go.Proofs.YtmkljjbioomepaaGreat.ks vs ds=true:=by
 unfold Go.Proofs.YtmkljjbioomepaaGreat.ks;rw[fP,jA,iz];refine⟨h.len.symm,λp c=>?_⟩;obtain⟨q,d⟩:=eP.1 c;obtain⟨a,b⟩:=Cn.1 d;obtain⟨e,f⟩:=h.each q p.1 p.2 a b;unfold sP
 grind
theorem zD {vs:bu}(h:vs≠[])(a:Int):cm [] vs a=⟨false,[],(0,0),[],some vs,false⟩:=by
 have c:vs.length≠0:=λe=>h (tG.1 e)
 have b:batch [] vs=⟨[],false,[],some vs,false⟩:=by unfold batch;grind
 grind[cm]
theorem zP {vs:bu}{d:cw}(G:bn)(ar:vs≠[])(h:Fit vs d)(a:Int):cm (d::G) vs a=⟨true,d,(0,0),G,none,false⟩:=by
 have c:vs.length≠0:=λe=>ar (tG.1 e)
 have b:batch (d::G) vs=⟨d,true,G,none,false⟩:=by unfold batch;rw[aW c];simp only[h.ks,if_true]
 unfold cm;rw[b];simp only[h.TC];rfl
theorem D0 (G:bn)(a:Int):cm G [] a=⟨true,[],(0,0),G,none,false⟩:=by have b:batch G []=⟨[],true,G,none,false⟩:=bm rfl;unfold cm;rw[b];rfl
set_option linter.unusedSectionVars false
section
variable {j:cJ}(ar:j.valid=0)(eT:j.writes≠[])
include ar eT
theorem Nd (G:bn):se j G=cm G (ni j) 1:=by
 unfold se nI ni
 grind
theorem Nf (G:bn):uB j G=cm G (m6 j) 2:=by
 unfold uB nI m6
 grind
theorem N2 (G:bn):nB j G=cm G (hW j) 3:=by
 unfold nB
 grind
theorem P7:dG j≠[]:=by
 unfold dG
 simp_all
theorem P8 {D:cw}(a:Fit (dG j) D)(b:iw (iM j) D=false)(G:bn):j' j (D::G)=⟨true,[],(0,0),G,none,false⟩:=by
 unfold j';rw[zP G (P7 ar eT) a]
 grind
end
end Go.Proofs.YtmkljjbioomepaaGreat
namespace Go.Proofs.YtmkljjbioomepaaGreat
open Go.bd
def ke (n:Nat):jj:=⟨0,stM n⟩
theorem fa.iE {A:a6}{av:bI}{w0 w u:aj}{aJ:Nat}{L B:a6}{f:bI}{X a:bt}(t:fa A av w aJ L u B f X)(c:b4 A av w aJ a)(e:ai w0 w)(b:∀ k,A k->w0.heap.size<=k):ai w0 u:=
 e.trans t.next.aC λk g d=>by have:=b k (c.fb k d);omega
theorem E' {A:a6}{w u:aj}{a:an}{xs:au}(b:bh w a xs)(d:ai w u)(c:∀ k,A k->w.heap.size<=k):m' A u a xs:=by
 refine⟨b.new d,?_⟩;by_cases e:xs=[]
 ·grind
 ·refine .inr ?_;cases a with
  |none=>trivial
  |some a=>intro h;have:=c _ h;have:=b.lt e;omega
namespace e2
def conv:Conv:=⟨cJ,Int×Int,ea⟩
structure qz (A:a6)(w:aj)(r:cE)(j:cJ):Prop where
 at_:o4 w r j
 view:gi A w r.View j.v
 aam:(F8 j.reads).flatten=[]\/gn A r.Reads
 aao:(ef j.writes).flatten=[]\/gn A r.de
 jX:o8 j
theorem gi.aC {A A':a6}{w w':aj}{r:c1}{v:jj}(h:gi A w r v)(b:ao A w w')(a:∀ k,k<w.heap.size->A' k->A k):gi A' w' r v:=
 ⟨h.num,h.len,h.cap,h.rd.aC b h.off,gn.aC h.rd h.off a,h.small⟩
theorem qz.aC {A A':a6}{w w':aj}{r:cE}{j:cJ}(h:qz A w r j)(d:ao A w w')(c:∀ k,k<w.heap.size->A' k->A k):qz A' w' r j:=by obtain⟨a,ar,e,hw,dR⟩:=h;have b:=gi.aC ar d c;exact⟨⟨a.a3,a.seq,a.lines,⟨A',b⟩,a.rd.aC d e,a.len,a.ej,⟨a.bT.rd.aC d hw,a.bT.len,a.bT.ej,a.bT.u64⟩⟩,b,gn.aC a.rd e c,gn.aC a.bT.rd hw c,dR⟩
end e2
end Go.Proofs.YtmkljjbioomepaaGreat
namespace Go.Proofs.YtmkljjbioomepaaGreat
open Go.bd e2
def bD (m:Nat):aU:=⟨(m:Int),1,true⟩
def cH (m:Nat)(a:Int)(ws:ba):bE:=⟨2,(m:Int),a,0,0,0,ws,1,1⟩
def Bs (a old new:Int):bE:=⟨3,0,a,0,old,new,[],1,1⟩
def B4 (a:Int):bE:=⟨1,0,a,1,0,0,[],1,1⟩
theorem pd {n L m:Nat}{a:Int}{ws:ba}(l:n<=5)(hm:m<n)(h:1<=L/\L<=256)(i:24<=a)(e:1<=ws.length)(f:ws.length<=1000)(g:a+ws.length<=L*8):ic n L (cH m a ws):=by
 refine⟨λk j d=>?_,⟨by show(0:Int)<=m;omega,by show(m:Int)<n;omega⟩,rfl,rfl⟩;have b:(cH m a ws).v.count=ws.length:=rfl;have c:(cH m a ws).v.inside k L=true:=by unfold aI.inside aI.e7 aI.hb;rw[b];apply tF;show 1<=k/\k<=5/\1<=(L:Int)/\(L:Int)<=256/\0<=(m:Int)/\(m:Int)<k/\0<=a/\a<(L:Int)*8/\(ws.length:Int)<=1024/\(a+ws.length-1) / 8<(L:Int)/\(a+ws.length-1) / 8-a / 8<128;omega
 unfold aI.valid;rw[b,aW (by omega),c,aW (by simp),aW];unfold aI.e7 aI.hb aI.last;rw[b];show¬ (a / 8<=(if(2:Int)=1 then 3 else 2)/\(if(2:Int)=1 then 3 else 2)<(a+ws.length-1) / 8)
 grind
structure Env where
 n:Nat
 L:Nat
 base:Nat->Nat->Int
 oy:Nat->Int
 ids:cV
 ed:Nat->cJ
 aan:Bool
def Env.on (E:Env)(i:Nat):Prop:=i ∈ E.ids
structure ey (E:Env)(i:Nat)(j:cJ):Prop where
 cR:j.a3=(i:Int)
 i6:i<6
 valid:j.valid=0
 view:j.v=ke E.n
 some_:j.writes≠[]
 ej:j.writes.length<=12
 yU:j.reads.length<=24
 line:∀ p ∈ j.writes,∃ l:Nat,p.bw=(l:Int)/\96<=l/\l<E.L
 aal:∀ s ∈ j.reads,∃ l:Nat,s.bw=(l:Int)/\96<=l/\l<E.L
 uniq:∀ p ∈ j.writes,∀ q ∈ j.writes,p.bw=q.bw->p=q
 nodup:(j.writes.map (·.bw)).Nodup
 head:∀ p ∈ j.writes,p.Head=E.base p.bw.toNat 0
 Ud:∀ p ∈ j.writes,∀ k:Nat,k<6->ew p.Head k≠p.Head/\(ew p.Head k=ew p.Head i->k=i)
 next:∀ p ∈ j.writes,kP p.Head≠p.Head
 aak:∀ s ∈ j.reads,s.Head=E.base s.bw.toNat 0
 aaj:∀ s ∈ j.reads,∀ p ∈ j.writes,s.bw≠p.bw
structure qt (E:Env):Prop where
 n:1<=E.n/\E.n<=5
 L:98<=E.L/\E.L<=256
 ids:E.ids.Nodup
 job:∀ i,E.on i->ey E i (E.ed i)
section
variable {E:Env}{i:Nat}{j:cJ}
theorem ey.mem (h:ey E i j):j.v.mem=(List.range E.n).map bD:=by rw[h.view];rfl
theorem ey.num (h:ey E i j):j.v.number=0:=by rw[h.view];rfl
theorem ey.bP (h:ey E i j)(b:1<=E.n):sW j=bD 0:=by
 unfold sW;rw[h.mem];obtain⟨k,a⟩:∃ k,E.n=k+1:=⟨E.n-1,by omega⟩
 grind[List.range_succ_eq_map]
theorem ey.tail (h:ey E i j):j.v.mem.tail=(List.range (E.n-1)).map λm=>bD (m+1):=by
 rw[h.mem];cases a:E.n with
 |zero=>rfl
 |succ k=>rw[zB];simp
theorem ey.log (h:ey E i j)(a:Int)(ws:ba):pJ j a ws=(List.range E.n).map λm=>cH m a ws:=by unfold pJ;rw[h.mem,h.num,rI];rfl
theorem ey.gz (h:ey E i j)(a:1<=E.n)(p:aD):lR j p=Bs (p.bw*8) p.Head (ew p.Head i):=by unfold lR;rw[h.num,h.bP a,h.cR];rfl
theorem ey.read (h:ey E i j)(a:1<=E.n)(s:eK):EQ j s=B4 (s.bw*8):=by unfold EQ;rw[h.num,h.bP a];rfl
def fD (m:Nat)(p:aD):bE:=cH m (p.bw*8) (ie p)
def oz (i:Nat)(seq:Int)(m:Nat):bE:=cH m (32+(i:Int)) [seq]
theorem ey.eM (h:ey E i j)(m:Nat)(p:aD):jy j (bD m) p=fD m p:=by unfold jy;rw[h.num];rfl
theorem ey.clock (h:ey E i j)(m:Nat):lA j (bD m)=oz i j.seq m:=by unfold lA;rw[h.num,h.cR];rfl
theorem ey.HA (h:ey E i j)(a:1<=E.n):dG j=(j.writes.map λp=>Bs (p.bw*8) p.Head (ew p.Head i))++j.reads.map λs=>B4 (s.bw*8):=by
 unfold dG;congr 1
 ·exact tI λp _=>h.gz a p
 ·exact tI λs _=>h.read a s
theorem ey.G1 (h:ey E i j):qy j=((List.range (E.n-1)).map λm=>(j.writes.map (fD (m+1))++[oz i j.seq (m+1)])).flatten:=by
 unfold qy;rw[h.tail,rI];congr 1;refine tI λm _=>?_
 show j3 j (bD (m+1))=_;unfold j3;rw[aW h.some_,h.clock];congr 1;exact tI λp _=>h.eM (m+1) p
theorem ey.G_ (h:ey E i j)(b:1<=E.n):hW j=oz i j.seq 0::j.writes.map (fD 0):=by have hm:=h.mem;unfold hW;obtain⟨k,a⟩:∃ k,E.n=k+1:=⟨E.n-1,by omega⟩;rw[a,zB]at hm;rw[hm];simp only[jT];rw[h.clock];congr 1;exact tI λp _=>h.eM 0 p
theorem ey.Bp (h:ey E i j):ni j=(List.range E.n).map λm=>cH m (56+120*(i:Int)) (fe j.seq j.writes):=by
 unfold ni;rw[h.log,h.cR]
 grind[fl]
theorem ey.BT (h:ey E i j):m6 j=(List.range E.n).map λm=>cH m (48+120*(i:Int)) [fZ j.seq]:=by unfold m6;rw[h.log,h.cR];rfl
end
end Go.Proofs.YtmkljjbioomepaaGreat
namespace Go.Proofs.YtmkljjbioomepaaGreat
open Go.bd e2
structure xd (L:Nat)(dO:Bool)(n:aO):Prop where
 up:n.down=false
 len:n.words.length=L*8
 key:n.get 0=1
 eS:n.get 1=1
 d0:n.get 24=if dO=true then 2 else 1
 fk:∀ c:Nat,1<=c->c<6->n.get (24+c)=1
theorem Gb {N L:Nat}{f:Bool}{n:aO}(a:xd L f n)(k:N<=5){x:bE}(d:ic N L x){p:db}{c:Nat}(o:p.a3=c)(j:p.inc=1)(i:c<6):p.refusal x n=if x.v.cls=1/\x.v.Kind=1 then 0 else if f=true/\c=0 then 5 else 0:=by
 unfold db.refusal;rw[aW (by rw[a.up];simp),a.len,show L*8 / 8=L by omega,aW (by rw[d.valid 5 (by omega) (by omega)];simp)];have e:(24+p.a3).toNat=24+c:=by grind
 rw[e,a.key,a.eS,j];unfold aI.check;split
 ·rfl
 have l:¬ (x.v.cB<0\/x.v.cB≠1\/x.v.Key≠1):=by show¬ (x.eS<0\/x.eS≠1\/x.key≠1);rw[d.key,d.eS];omega
 have h:∀ b:Int,(if(1:Int)<0\/(1:Int)<b then(5:Int)else if x.v.cls=1 then 0 else if x.v.cB<0\/x.v.cB≠1\/x.v.Key≠1 then 5 else 0)=if 1<b then 5 else 0:=λb=>by
  grind
 rw[h];by_cases g:c=0
 ·subst g;rw[m1,a.d0]
  grind
 ·rw[a.fk c (by omega) i,aW (by decide),aW (λe=>g e.2)]
theorem pn.aS {a k L:Nat}{d:Bool}{n n':aO}(h:pn a k n n')(b:xd L d n)(g:30<=a):xd L d n':=
 ⟨h.down.trans b.up,h.len.trans b.len,(h.get 0 (by omega)).trans b.key,(h.get 1 (by omega)).trans b.eS,by rw[h.get 24 (by omega)];exact b.d0,λc e f=>by rw[h.get (24+c) (by omega)];exact b.fk c e f⟩
abbrev bL (E:Env):List aD:=(E.ed 0).writes
abbrev dv (E:Env):Int:=(E.ed 0).seq
abbrev fE (E:Env):ba:=fe (dv E) (bL E)
abbrev hQ (E:Env):Int:=fZ (dv E)
abbrev bx (p:aD):Nat:=p.bw.toNat
structure cl (E:Env):Prop where
 e:qt E
 one:E.ids=[0]
 rd:(E.ed 0).reads=[]
 Ub:∀ p ∈ bL E,ew p.Head 0≠kP p.Head
 yX:fJ (dv E) (bL E) E.L=0
 jX:o8 (E.ed 0)
 u64:∀ p ∈ bL E,ch p.Head
 oy:0<=E.oy 0/\E.oy 0<dv E
 cg:∀ l,96<=l->l<E.L->E.base l 0 % 2=0
theorem cl.job {E:Env}(h:cl E):ey E 0 (E.ed 0):=h.e.job 0 (by unfold Env.on;rw[h.one];simp)
theorem cl.seq {E:Env}(h:cl E):1<=dv E/\dv E<1073741824:=by
 obtain⟨_,a,_⟩:=jn h.yX
 grind
theorem cl.pl {E:Env}(h:cl E){p:aD}(c:p ∈ bL E):96<=bx p/\bx p<E.L/\p.bw=(bx p:Int):=by
 obtain⟨l,e,a,b⟩:=h.job.line p c
 grind
theorem cl.inj {E:Env}(h:cl E){p q:aD}(a:p ∈ bL E)(b:q ∈ bL E)(e:bx p=bx q):p=q:=
 h.job.uniq p a q b (by rw[(h.pl a).2.2,(h.pl b).2.2,e])
theorem cl.k5 {E:Env}(h:cl E):(fE E).length=3+9*(bL E).length/\(bL E).length<=12:=⟨pT _ _,h.job.ej⟩
structure bA where
 bT:Nat->Nat->Nat
 c2:Nat->Bool
 dL:Nat->Bool
 fi:Nat->Bool
 dO:Nat->Bool
 dY:Int
def qC (E:Env)(p:aD)(s:Nat)(x:aO):Prop:=match s with
 | 0=>∀ k,k<8->x.get (bx p*8+k)=E.base (bx p) k
 | 1=>x.get (bx p*8)=ew p.Head 0/\∀ k,1<=k->k<8->x.get (bx p*8+k)=E.base (bx p) k
 | _=>∀ k,k<8->x.get (bx p*8+k)=(ie p).getD k 0
structure Mem (E:Env)(A:bA)(m:Nat)(x:aO):Prop where
 aS:xd E.L (A.dO m) x
 bT:∀ p ∈ bL E,qC E p (A.bT m (bx p)) x
 gI:∀ l:Nat,96<=l->l<E.L->(∀ p ∈ bL E,bx p≠l)->∀ k,k<8->x.get (l*8+k)=E.base l k
 cU:∀ c:Nat,1<=c->c<6->x.get (32+c)=E.oy c
 dL:x.get 32=if A.dL m=true then dv E else E.oy 0
 c2:x.get 48=if A.c2 m=true then hQ E else 0
 dY:m=0->x.get 49=A.dY
 fi:A.fi m=true->∀ k,k<(fE E).length->x.get (56+k)=(fE E).getD k 0
structure jh (E:Env)(A:bA)(ns:List aO):Prop where
 len:ns.length=E.n
 mem:∀ (m:Nat) (x:aO),ns[m]?=some x->Mem E A m x
structure e3 (E:Env)(A:bA):Prop where
 e7:∀ m,m<E.n->∀ p ∈ bL E,A.bT m (bx p)<=2/\(1<=m->A.bT m (bx p)≠1)
 l2:∀ m,m<E.n->A.c2 m=true->(∀ pK,pK<E.n->A.fi pK=true)/\∀ p ∈ bL E,A.bT 0 (bx p)≠0
 jJ:∀ m,m<E.n->∀ p ∈ bL E,A.bT m (bx p)=2->∀ pK,pK<E.n->A.c2 pK=true
 nH:∀ m,m<E.n->A.dL m=true->∀ pK,pK<E.n->A.c2 pK=true
 k':∀ p ∈ bL E,A.bT 0 (bx p)=2->A.dL 0=true
 ld:A.dL 0=true->∀ m,1<=m->m<E.n->A.dL m=true
 kA:∀ m,1<=m->m<E.n->A.dL m=true->∀ p ∈ bL E,A.bT m (bx p)=2
def h' (E:Env)(A:bA):Prop:=∀ m,m<E.n->A.c2 m=true
def gh (E:Env)(A:bA):Prop:=∀ m,m<E.n->A.c2 m=false
def hT (E:Env)(A:bA):Prop:=∀ m,m<E.n->A.fi m=true
def jf (E:Env)(A:bA):Prop:=∀ m,m<E.n->A.dO m=true
def qf (E:Env)(A:bA):Prop:=∀ m,1<=m->m<E.n->A.dL m=true
def oe (E:Env)(A:bA):Prop:=h' E A/\A.dL 0=true/\∀ p ∈ bL E,A.bT 0 (bx p)=2
def r_ (E:Env)(A:bA):Prop:=jf E A/\gh E A/\∀ p ∈ bL E,A.bT 0 (bx p)=0
structure dU (E:Env)(A A':bA):Prop where
 c2:∀ m,A.c2 m=true->A'.c2 m=true
 dL:∀ m,A.dL m=true->A'.dL m=true
 fi:∀ m,A.fi m=true->A'.fi m=true
 dO:∀ m,A.dO m=true->A'.dO m=true
 bT:∀ m l,A.bT m l=2->A'.bT m l=2
theorem dU.refl (E:Env)(A:bA):dU E A A:=⟨λ_ h=>h,λ_ h=>h,λ_ h=>h,λ_ h=>h,λ_ _ h=>h⟩
theorem dU.am {E:Env}{A A':bA}(h:dU E A A')(g:h' E A):h' E A':=λm hm=>h.c2 m (g m hm)
theorem dU.lb {E:Env}{A A':bA}(h:dU E A A')(g:hT E A):hT E A':=λm hm=>h.fi m (g m hm)
theorem dU.bC {E:Env}{A A':bA}(h:dU E A A')(g:jf E A):jf E A':=λm hm=>h.dO m (g m hm)
theorem dU.Bn {E:Env}{A A':bA}(h:dU E A A')(g:qf E A):qf E A':=λm a hm=>h.dL m (g m a hm)
theorem dU.G9 {E:Env}{A A':bA}(h:dU E A A')(g:oe E A):oe E A':=⟨h.am g.1,h.dL 0 g.2.1,λp a=>h.bT 0 _ (g.2.2 p a)⟩
def bA.gT (A:bA)(m l s:Nat):bA:={A with bT:=λa l'=>if a=m/\l'=l then s else A.bT a l'}
def bA.jv (A:bA)(m:Nat):bA:={A with c2:=λa=>if a=m then true else A.c2 a}
def bA.lo (A:bA)(m:Nat):bA:={A with dL:=λa=>if a=m then true else A.dL a}
def bA.p0 (A:bA)(m:Nat):bA:={A with fi:=λa=>if a=m then true else A.fi a}
def bA.oT (A:bA)(m:Nat):bA:={A with dO:=λa=>if a=m then true else A.dO a}
def bA.rr (A:bA)(t:Int):bA:={A with dY:=t}
section
variable {E:Env}{A:bA}{ns:List aO}{m:Nat}{x fh:aO}
theorem jh.fp (h:jh E A ns){A':bA}(f:ns[m]?=some x)(hm:Mem E A' m fh)(d:∀ a,a≠m->∀ y,Mem E A a y->Mem E A' a y):jh E A' (ns.set m fh):=by
 refine⟨by simpa using h.len,λa y b=>?_⟩;by_cases e:m=a
 ·grind
 ·rw[m3 e]at b;exact d a (λc=>e c.symm) y (h.mem a y b)
theorem Mem.same (h:Mem E A m x){A':bA}(b:∀ p ∈ bL E,A'.bT m (bx p)=A.bT m (bx p))(c:A'.c2 m=A.c2 m)(d:A'.dL m=A.dL m)(f:A'.fi m=A.fi m)(g:A'.dO m=A.dO m)(i:m=0->A'.dY=A.dY):Mem E A' m x:=
 ⟨by rw[g];exact h.aS,λp a=>by rw[b p a];exact h.bT p a,h.gI,h.cU,by rw[d];exact h.dL,by rw[c];exact h.c2,λe=>by rw[i e];exact h.dY e,by rw[f];exact h.fi⟩
theorem qC.gB {p:aD}{s a k:Nat}(h:qC E p s x)(c:pn a k x fh)(f:a+k<=bx p*8\/bx p*8+8<=a):qC E p s fh:=by
 have g:∀ b,b<8->fh.get (bx p*8+b)=x.get (bx p*8+b):=λb d=>c.get _ (by omega)
 unfold qC at h ⊢;split at h
 ·grind
 ·exact⟨by have:=g 0 (by omega);grind,λb e d=>by grind⟩
 grind
theorem Mem.low (aA:cl E)(h:Mem E A m x){a k:Nat}(b:pn a k x fh)(u:30<=a)(z:a+k<=768){A':bA}(o:∀ p ∈ bL E,A'.bT m (bx p)=A.bT m (bx p))(g:A'.dO m=A.dO m)
  (r:38<=a\/a+k<=33) (f:fh.get 32=if A'.dL m=true then dv E else E.oy 0) (j:fh.get 48=if A'.c2 m=true then hQ E else 0) (q:m=0->fh.get 49=A'.dY) (e:A'.fi m=true->∀ k,k<(fE E).length->fh.get (56+k)=(fE E).getD k 0):Mem E A' m fh:=
 ⟨by rw[g];exact b.aS h.aS u,λp n=>by rw[o p n];exact(h.bT p n).gB b (by have:=aA.pl n;omega),λl d s t y i=>by rw[b.get _ (by omega)];exact h.gI l d s t y i,λc d w=>by rw[b.get _ (by omega)];exact h.cU c d w,f,j,q,e⟩
theorem Mem.eM (aA:cl E)(h:Mem E A m x){p:aD}(f:p ∈ bL E)(a:pn (bx p*8) 8 x fh){s:Nat}(t:qC E p s fh):Mem E (A.gT m (bx p) s) m fh:=by
 have u:=aA.pl f;refine⟨a.aS h.aS (by omega),λq j=>?_,λl b n i k d=>?_,λc b r=>by rw[a.get _ (by omega)];exact h.cU c b r,by rw[a.get _ (by omega)];exact h.dL,by rw[a.get _ (by omega)];exact h.c2,λe=>by rw[a.get _ (by omega)];exact h.dY e,λo k d=>?_⟩
 ·show qC E q (if m=m/\bx q=bx p then s else A.bT m (bx q)) fh;by_cases e:bx q=bx p
  ·rw[bm ⟨rfl,e⟩,aA.inj j f e];exact t
  ·rw[aW (λg=>e g.2)];exact(h.bT q j).gB a (by omega)
 ·have:=i p f;rw[a.get _ (by omega)];exact h.gI l b n i k d
 ·have:=aA.k5;rw[a.get _ (by omega)];exact h.fi o k d
end
end Go.Proofs.YtmkljjbioomepaaGreat
namespace Go.Proofs.YtmkljjbioomepaaGreat
open Go.bd e2
section
variable {E:Env}{A:bA}{m:Nat}{p:aD}
theorem e3.TA (h:e3 E A)(m:Nat):e3 E (A.p0 m):=by
 obtain⟨e7,l2,jJ,nH,k',ld,kA⟩:=h;refine⟨e7,λk a e=>⟨λc b=>?_,(l2 k a e).2⟩,jJ,nH,k',ld,kA⟩
 grind[bA.p0]
theorem e3.Bu (h:e3 E A)(m:Nat):e3 E (A.oT m):=⟨h.e7,h.l2,h.jJ,h.nH,h.k',h.ld,h.kA⟩
theorem e3.tag (h:e3 E A)(t:Int):e3 E (A.rr t):=⟨h.e7,h.l2,h.jJ,h.nH,h.k',h.ld,h.kA⟩
theorem e3.s4 (h:e3 E A){l s:Nat}(r:s<=2)(t:1<=m->s≠1)(j:s=0->m=0->gh E A)(n:s=2->h' E A)(o:s=2->m=0->A.dL 0=true)(u:1<=m->A.bT m l=2->s=2):e3 E (A.gT m l s):=by
 obtain⟨e7,l2,jJ,nH,k',ld,kA⟩:=h;have e:∀ k q,(A.gT m l s).bT k q=if k=m/\q=l then s else A.bT k q:=λ_ _=>rfl
 refine⟨λk a p b=>?_,λk a hm=>⟨(l2 k a hm).1,λp b=>?_⟩,λk a p b=>?_,nH,λp b=>?_,ld,λk c a d p b=>?_⟩
 ·grind
 ·rw[e];split
  ·rename_i g;intro f;have hm:A.c2 k=true:=hm;rw[j f g.1.symm k a]at hm;cases hm
  ·exact(l2 k a hm).2 p b
 ·rw[e];split
  ·exact n
  ·exact jJ k a p b
 ·rw[e];split
  ·rename_i g;exactλi=>o i g.1.symm
  ·exact k' p b
 ·rw[e];split
  ·rename_i g;have:=kA k c a d p b
   grind
  ·exact kA k c a d p b
theorem e3.vp (h:e3 E A)(f:hT E A)(d:∀ p ∈ bL E,A.bT 0 (bx p)≠0)(m:Nat):e3 E (A.jv m):=by
 obtain⟨e7,l2,jJ,nH,k',ld,kA⟩:=h;have up:∀ k,A.c2 k=true->(A.jv m).c2 k=true:=λk b=>by grind[bA.jv]
 exact⟨e7,λk b e=>⟨f,d⟩,λk b p d e c a=>up c (jJ k b p d e c a),λk b e c a=>up c (nH k b e c a),k',ld,kA⟩
theorem e3.uW (h:e3 E A)(l:h' E A)(i:m=0->qf E A)(j:1<=m->∀ p ∈ bL E,A.bT m (bx p)=2):e3 E (A.lo m):=by
 obtain⟨e7,l2,jJ,nH,k',ld,kA⟩:=h;have e:∀ k,(A.lo m).dL k=if k=m then true else A.dL k:=λ_=>rfl
 have up:∀ k,A.dL k=true->(A.lo m).dL k=true:=λk c=>by grind
 refine⟨e7,l2,jJ,λk c _=>l,λp d f=>up 0 (k' p d f),λb k a c=>?_,λk a c b p d=>?_⟩
 ·rw[e]at b;by_cases g:0=m
  ·exact up k (i g.symm k a c)
  grind
 ·rw[e]at b;by_cases g:k=m
  ·rw[g];exact j (by omega) p d
  ·rw[aW g]at b;exact kA k a c b p d
theorem wI {l s:Nat}(h:A.bT m l=2->s=2):dU E A (A.gT m l s):=⟨λ_ h=>h,λ_ h=>h,λ_ h=>h,λ_ h=>h,λk q e=>by
 show(if k=m/\q=l then s else A.bT k q)=2
 grind⟩
theorem Fa:dU E A (A.jv m):=⟨λk h=>by grind[bA.jv],λ_ h=>h,λ_ h=>h,λ_ h=>h,λ_ _ h=>h⟩
theorem Fb:dU E A (A.lo m):=⟨λ_ h=>h,λk h=>by grind[bA.lo],λ_ h=>h,λ_ h=>h,λ_ _ h=>h⟩
theorem P9:dU E A (A.p0 m):=⟨λ_ h=>h,λ_ h=>h,λk h=>by grind[bA.p0],λ_ h=>h,λ_ _ h=>h⟩
theorem P_:dU E A (A.oT m):=⟨λ_ h=>h,λ_ h=>h,λ_ h=>h,λk h=>by grind[bA.oT],λ_ _ h=>h⟩
theorem Fc {t:Int}:dU E A (A.rr t):=⟨λ_ h=>h,λ_ h=>h,λ_ h=>h,λ_ h=>h,λ_ _ h=>h⟩
end
section
variable {E:Env}{A:bA}{ns:List aO}{m:Nat}{x:aO}
theorem Mem.wr (h:Mem E A m x)(aA:cl E){a:Nat}{ws:ba}(b:a+ws.length<=E.L*8):pn a ws.length x (x.write a ws):=
 ⟨DZ (by rw[h.aS.len];exact b),rfl,λi c=>by rw[tj (by rw[h.aS.len];exact b),aW (by omega)]⟩
theorem cl.mC {E:Env}(h:cl E):784<=E.L*8:=by have:=h.e.L;omega
theorem Mem.vp (aA:cl E)(h:Mem E A m x):Mem E (A.jv m) m (x.write 48 [hQ E]):=by
 have b:=aA.mC;have g:=tj (n:=x) (a:=48) (ws:=[hQ E]) (by rw[h.aS.len];grind);refine h.low aA (h.wr aA (by grind)) (by omega) (by simp) (λ_ _=>rfl) rfl (.inl (by omega)) ?_ ?_ (λe=>?_) λb k c=>?_
 ·rw[g,aW (by simp)];exact h.dL
 ·rw[g,bm (by simp)];simp[bA.jv]
 ·rw[g,aW (by simp)];exact h.dY e
 ·rw[g,aW (by grind)];exact h.fi b k c
theorem Mem.Y8 (aA:cl E)(h:Mem E A m x)(d:A.c2 m=false):Mem E A m (x.write 48 [0]):=by
 have b:=aA.mC;have g:=tj (n:=x) (a:=48) (ws:=[0]) (by rw[h.aS.len];grind);refine h.low aA (h.wr aA (by grind)) (by omega) (by simp) (λ_ _=>rfl) rfl (.inl (by omega)) ?_ ?_ (λe=>?_) λb k c=>?_
 ·rw[g,aW (by simp)];exact h.dL
 ·grind
 ·rw[g,aW (by simp)];exact h.dY e
 ·rw[g,aW (by grind)];exact h.fi b k c
theorem Mem.uW (aA:cl E)(h:Mem E A m x):Mem E (A.lo m) m (x.write 32 [dv E]):=by
 have b:=aA.mC;have g:=tj (n:=x) (a:=32) (ws:=[dv E]) (by rw[h.aS.len];grind);refine h.low aA (h.wr aA (by grind)) (by omega) (by simp) (λ_ _=>rfl) rfl (.inr (by simp)) ?_ ?_ (λe=>?_) λb k c=>?_
 ·rw[g,bm (by simp)];simp[bA.lo]
 ·rw[g,aW (by simp)];exact h.c2
 ·rw[g,aW (by simp)];exact h.dY e
 ·rw[g,aW (by grind)];exact h.fi b k c
theorem Mem.new (aA:cl E)(h:Mem E A m x){p:aD}(b:p ∈ bL E):Mem E (A.gT m (bx p) 2) m (x.write (bx p*8) (ie p)):=by
 have d:=aA.pl b;refine h.eM aA b (h.wr aA (a:=bx p*8) (ws:=ie p) (by show bx p*8+8<=_;omega)) λk c=>?_
 rw[tj (by rw[h.aS.len];show bx p*8+8<=_;omega),bm (by show bx p*8<=bx p*8+k/\bx p*8+k<bx p*8+8;omega)]
 grind
theorem Mem.st (h:Mem E A m x)(aA:cl E){a:Nat}(b:a<E.L*8)(v:Int):pn a 1 x {x with words:=x.words.set a v}/\∀ i,({x with words:=x.words.set a v}:aO).get i=if i=a then v else x.get i:=by have g:=P6 (n:=x) (a:=a) (by rw[h.aS.len];exact b) v;exact⟨⟨by simp,rfl,λi c=>by grind⟩,g⟩
theorem Mem.Ue (aA:cl E)(h:Mem E A m x){p:aD}(d:p ∈ bL E)(e:A.bT m (bx p)=0):Mem E (A.gT m (bx p) 1) m {x with words:=x.words.set (bx p*8) (ew p.Head 0)}:=by have n:=aA.pl d;obtain⟨c,g⟩:=h.st aA (a:=bx p*8) (by omega) (ew p.Head 0);have b:=h.bT p d;rw[e]at b;refine h.eM aA d ⟨c.len,c.down,λi l=>c.get i (by omega)⟩ ⟨by grind,λk j f=>?_⟩;rw[g,aW (by omega)];exact b k f
theorem Mem.l3 (aA:cl E)(h:Mem E A m x){p:aD}(c:p ∈ bL E)(f:A.bT m (bx p)=1):Mem E (A.gT m (bx p) 0) m {x with words:=x.words.set (bx p*8) p.Head}:=by
 have n:=aA.pl c;obtain⟨d,g⟩:=h.st aA (a:=bx p*8) (by omega) p.Head;have b:=h.bT p c;rw[f]at b;refine h.eM aA c ⟨d.len,d.down,λi l=>d.get i (by omega)⟩ λk j=>?_
 by_cases e:k=0
 ·subst e;rw[g,bm (by omega)];exact aA.job.head p c
 ·rw[g,aW (by omega)];exact b.2 k (by omega) j
theorem Mem.Bu (aA:cl E)(h:Mem E A m x):Mem E (A.oT m) m {x with words:=x.words.set 24 2}:=by
 have n:=aA.mC;obtain⟨o,g⟩:=h.st aA (a:=24) (by omega) 2;have b:∀ i,i≠24->({x with words:=x.words.set 24 2}:aO).get i=x.get i:=λi t=>by grind
 refine⟨⟨h.aS.up,o.len.trans h.aS.len,(b 0 (by omega)).trans h.aS.key,(b 1 (by omega)).trans h.aS.eS,by rw[g,bm rfl];simp[bA.oT],λc d f=>by rw[b _ (by omega)];exact h.aS.fk c d f⟩,λp q=>(h.bT p q).gB o (by have:=aA.pl q;omega),λl d r s k j=>by rw[b _ (by omega)];exact h.gI l d r s k j,λc d f=>by rw[b _ (by omega)];exact h.cU c d f,by rw[b _ (by omega)];exact h.dL,by rw[b _ (by omega)];exact h.c2,λe=>by rw[b _ (by omega)];exact h.dY e,λn k j=>by rw[b _ (by omega)];exact h.fi n k j⟩
theorem Mem.tag (aA:cl E)(h:Mem E A 0 x)(t:Int):Mem E (A.rr t) 0 {x with words:=x.words.set 49 t}:=by
 have b:=aA.mC;obtain⟨c,g⟩:=h.st aA (a:=49) (by omega) t;refine h.low aA c (by omega) (by omega) (λ_ _=>rfl) rfl (.inl (by omega)) ?_ ?_ (λe=>?_) λb k d=>?_
 ·rw[g,aW (by omega)];exact h.dL
 ·rw[g,aW (by omega)];exact h.c2
 ·rw[g,bm rfl];rfl
 ·rw[g,aW (by omega)];exact h.fi b k d
theorem Mem.dR (aA:cl E)(h:Mem E A m x){p:aD}(b:p ∈ bL E)(d:A.bT m (bx p)<=2):(A.bT m (bx p)=0->x.get (bx p*8)=p.Head)/\(x.get (bx p*8)=ew p.Head 0↔A.bT m (bx p)=1):=by
 have a:=h.bT p b;have c:=aA.job;have i:=c.head p b;have f:=(c.Ud p b 0 (by omega)).1;have j:=aA.Ub p b;generalize k:A.bT m (bx p)=s at a d ⊢
 match s,a,d with
 | 0,a,_=>
  have e:=a 0 (by omega)
  grind
 | 1,a,_=>exact⟨λe=>(by cases e),⟨λ_=>rfl,λ_=>a.1⟩⟩
 | 2,a,_=>
  have e:=a 0 (by omega);rw[m1]at e;have g:x.get (bx p*8)=kP p.Head:=e
  grind
end
end Go.Proofs.YtmkljjbioomepaaGreat
namespace Go.Proofs.YtmkljjbioomepaaGreat
open Go.bd e2
def fV (m:Nat)(a o w:Int):bE:=⟨3,(m:Int),a,0,o,w,[],1,1⟩
def c5 (m:Nat)(a k:Int):bE:=⟨1,(m:Int),a,k,0,0,[],1,1⟩
theorem n5 {n L m:Nat}{a o w:Int}(i:n<=5)(hm:m<n)(f:1<=L/\L<=256)(g:24<=a)(e:a+1<=L*8):ic n L (fV m a o w):=by
 refine⟨λk h d=>?_,⟨by show(0:Int)<=m;omega,by show(m:Int)<n;omega⟩,rfl,rfl⟩;have b:(fV m a o w).v.count=1:=rfl;have c:(fV m a o w).v.inside k L=true:=by unfold aI.inside aI.e7 aI.hb;rw[b];apply tF;show 1<=k/\k<=5/\1<=(L:Int)/\(L:Int)<=256/\0<=(m:Int)/\(m:Int)<k/\0<=a/\a<(L:Int)*8/\(1:Int)<=1024/\(a+1-1) / 8<(L:Int)/\(a+1-1) / 8-a / 8<128;omega
 unfold aI.valid;rw[b,aW (by omega),c,aW (by simp),aW];unfold aI.e7 aI.hb aI.last
 grind
theorem o5 {n L m:Nat}{a c:Int}(l:n<=5)(hm:m<n)(h:1<=L/\L<=256)(i:0<=a)(f:1<=c/\c<=1000)(g:a+c<=L*8)(o:32<=a\/a+c<=32):ic n L (c5 m a c):=by
 refine⟨λk j e=>?_,⟨by show(0:Int)<=m;omega,by show(m:Int)<n;omega⟩,rfl,rfl⟩;have b:(c5 m a c).v.count=c:=rfl;have d:(c5 m a c).v.inside k L=true:=by unfold aI.inside aI.e7 aI.hb;rw[b];apply tF;show 1<=k/\k<=5/\1<=(L:Int)/\(L:Int)<=256/\0<=(m:Int)/\(m:Int)<k/\0<=a/\a<(L:Int)*8/\c<=1024/\(a+c-1) / 8<(L:Int)/\(a+c-1) / 8-a / 8<128;omega
 unfold aI.valid;rw[b,aW (by omega),d,aW (by simp),aW];unfold aI.e7 aI.hb aI.last;rw[b];show¬ (a / 8<=(if(1:Int)=1 then 3 else 2)/\(if(1:Int)=1 then 3 else 2)<(a+c-1) / 8)
 grind
theorem Aj:∀ (f:Nat)(a c:Int),a % 8=0->c<=f->∀ e:Nat,(hC f a c)[e]?=if 8*(e:Int)<c then some (a+8*e,if 8<c-8*e then 8 else c-8*e)else none
 | 0,a,c,d,h,e=>by rw[aW (by omega)];rfl
 |f+1,a,c,d,h,e=>by
  unfold hC;by_cases g:c<=0
  ·grind
  rw[aW g,d];by_cases b:8-0<c
  ·rw[bm b];cases e with
   |zero=>
    simp_all
   |succ e=>
    rw[zn,Aj f _ _ (by omega) (by omega) e]
    grind
  ·rw[aW b];cases e with
   |zero=>
    grind
   |succ e=>
    rw[zn,aW (by omega)];cases f with
    |zero=>rfl
    |succ f=>unfold hC;grind
section
variable {p:db}{x:aO}{e1:bu}{m:Nat}
theorem A3 {a:Nat}{ws:ba}(r:fI p)(h:p.bj=cH m a ws::e1)(t:p.refusal (cH m a ws) x=0)(y:a % 8=0)(s:p.words=[])(C:a+ws.length<=x.words.length) :
  8*p.b0<ws.length/\(p.step x).2.1=x.write (a+8*p.b0) ((ws.drop (8*p.b0)).take 8)/\pn a ws.length x (p.step x).2.1/\(∀ k,k<ws.length->8*p.b0<=k/\k<8*(p.b0+1)\/x.get (a+k)=ws.getD k 0->(p.step x).2.1.get (a+k)=ws.getD k 0)/\
   ((8*(p.b0+1)<ws.length/\(p.step x).1={p with b0:=p.b0+1}/\(p.step x).2.2=none)\/(ws.length<=8*(p.b0+1)/\(p.step x).1=p.done/\(p.step x).2.2=some ⟨0,[]⟩)):=by
 have o:=r.hL _ _ h;have b:(cH m a ws).v.count=ws.length:=rfl;have z:∀ e:Nat,(cH m a ws).v.pieces[e]?=if 8*(e:Int)<ws.length then some ((a:Int)+8*e,if 8<(ws.length:Int)-8*e then 8 else(ws.length:Int)-8*e)else none:=λe=>by unfold aI.pieces;rw[b];exact Aj _ _ _ (by show(a:Int) % 8=0;omega) (by omega) e
 have hlen:∀ e:Nat,e<(cH m a ws).v.pieces.length↔8*e<ws.length:=λe=>by
  grind
 have q:=(hlen _).1 o;have l:(cH m a ws).v.pieces.getD p.b0 (0,0)=((a:Int)+8*p.b0,if 8<(ws.length:Int)-8*p.b0 then 8 else(ws.length:Int)-8*p.b0):=by
  grind
 have w:exec (cH m a ws) ((cH m a ws).v.pieces.getD p.b0 (0,0)) x=(x.write (a+8*p.b0) ((ws.drop (8*p.b0)).take 8),[]):=by
  rw[l];unfold exec;rw[aW (show¬ (cH m a ws).kind=1 by show¬ (2:Int)=1;omega),bm (show(cH m a ws).kind=2 from rfl)];show(x.write ((a:Int)+8*p.b0).toNat ((ws.drop ((a:Int)+8*p.b0-(a:Int)).toNat).take (if 8<(ws.length:Int)-8*p.b0 then(8:Int)else(ws.length:Int)-8*p.b0).toNat),([]:ba))=_;have e:(ws.drop (8*p.b0)).take (if 8<(ws.length:Int)-8*p.b0 then(8:Int)else(ws.length:Int)-8*p.b0).toNat=(ws.drop (8*p.b0)).take 8:=by
   grind[List.take_of_length_le,List.length_drop]
  grind
 have f:=tR h t;rw[w,s]at f;have u:((ws.drop (8*p.b0)).take 8).length<=8/\a+8*p.b0+((ws.drop (8*p.b0)).take 8).length<=a+ws.length:=by grind
 have g:=tj (n:=x) (a:=a+8*p.b0) (ws:=(ws.drop (8*p.b0)).take 8) (by omega);have j:(p.step x).2.1=x.write (a+8*p.b0) ((ws.drop (8*p.b0)).take 8):=by grind
 refine⟨q,j,?_,λk B d=>?_,?_⟩
 ·rw[j];exact⟨DZ (by omega),rfl,λi A=>by rw[g,aW (by omega)]⟩
 ·rw[j,g];by_cases c:a+8*p.b0<=a+k/\a+k<a+8*p.b0+((ws.drop (8*p.b0)).take 8).length
  ·rw[bm c,show a+k-(a+8*p.b0)=k-8*p.b0 by omega];simp only[lF];rw[zp (by omega),vU]
   simp_all
  ·rw[aW c];rcases d with d | d
   ·exfalso;simp at c <;> omega
   grind
 grind
theorem Tt {a k:Nat}(j:fI p)(f:p.bj=c5 m a k::e1)(n:p.refusal (c5 m a k) x=0)(i:a % 8=0\/k=1)(l:p.words=(x.words.drop a).take (8 * p.b0))(s:a+k<=x.words.length) :
  (p.step x).2.1=x/\(((p.step x).1={p with b0:=p.b0+1,words:=(x.words.drop a).take (8*(p.b0+1))}/\(p.step x).2.2=none)\/((p.step x).1=p.done/\(p.step x).2.2=some ⟨0,(x.words.drop a).take k⟩)):=by
 have g:=j.hL _ _ f;have b:(c5 m a k).v.count=k:=rfl;have h:=tR f n;by_cases c:k=1
 ·subst c;have d:(c5 m a (1:Nat)).v.pieces=[((a:Int),1)]:=q6 (v:=(c5 m a (1:Nat)).v) (by grind) (by grind) (by show(0:Int)<=a;omega)
  grind[exec,c5,aO.read]
 have i:a % 8=0:=i.resolve_right c;have r:∀ e:Nat,(c5 m a k).v.pieces[e]?=if 8*(e:Int)<k then some ((a:Int)+8*e,if 8<(k:Int)-8*e then 8 else(k:Int)-8*e)else none:=λe=>by unfold aI.pieces;rw[b];exact Aj _ _ _ (by show(a:Int) % 8=0;omega) (by omega) e
 have hlen:∀ e:Nat,e<(c5 m a k).v.pieces.length↔8*e<k:=λe=>by
  grind
 have q:=(hlen _).1 g;have d:(c5 m a k).v.pieces.getD p.b0 (0,0)=((a:Int)+8*p.b0,if 8<(k:Int)-8*p.b0 then 8 else(k:Int)-8*p.b0):=by
  grind
 have hw:p.words++(exec (c5 m a k) ((c5 m a k).v.pieces.getD p.b0 (0,0)) x).2=(x.words.drop a).take (min (8*(p.b0+1)) k):=by
  rw[d,l];unfold exec;rw[bm (show(c5 m a k).kind=1 from rfl)];simp only[aO.read];rw[show((a:Int)+8*p.b0).toNat=a+8*p.b0 by omega,<-vQ,<-List.take_add]
  grind
 have o:(exec (c5 m a k) ((c5 m a k).v.pieces.getD p.b0 (0,0)) x).1=x:=by unfold exec;rw[bm (show(c5 m a k).kind=1 from rfl)]
 grind
theorem uy {a:Nat}{o w:Int}(c:fI p)(b:p.bj=fV m a o w::e1)(e:p.refusal (fV m a o w) x=0):p.step x=(p.done,x.gz a o w,some ⟨0,[x.get a]⟩):=by have d:(fV m a o w).v.pieces=[((a:Int),1)]:=q6 (v:=(fV m a o w).v) (by show(1:Int)<=1;omega) (by show(a:Int) % 8+1<=8;omega) (by show(0:Int)<=a;omega);rw[Ei c b e d,N1 rfl];rfl
theorem AO {v:bE}(a:p.bj=v::e1)(b:p.refusal v x≠0):p.step x=(p.done,x,some ⟨p.refusal v x,[]⟩):=by
 unfold db.step
 grind
end
end Go.Proofs.YtmkljjbioomepaaGreat
namespace Go.Proofs.YtmkljjbioomepaaGreat
open Go.bd
def n6 (i:Int):Bool:=decide (1<=i/\i<=59) && (Int.tmod i 2 == 1)
def ga (i c:Int):Int:=if n6 i=false then 2 else if¬ (0<=c/\c<6)then 1 else 0
def gv (i c:Int):Int:=if ga i c=0 then i*256+(c+1)else 0
def lr (t:Int):Int:=if ga (t / 256) (t % 256-1)=0 then t / 256 else 0
def lu (t:Int):Int:=if ga (t / 256) (t % 256-1)=0 then t % 256-1 else 0
def mZ (t:Int):Bool:=decide (ga (t / 256) (t % 256-1)=0)
theorem vM {i c:Int}(h:ga i c=0):(1<=i/\i<=59)/\0<=c/\c<6:=by
 unfold ga at h;split at h
 ·cases h
 ·rename_i a;split at h
  ·cases h
  ·rename_i b;have b:0<=c/\c<6:=by grind
   have a:n6 i=true:=by grind
   unfold n6 at a
   grind
theorem N3 {i c:Int}(h:59<i):ga i c=2:=by
 unfold ga;rw[bm]
 grind[n6,decide_eq_false]
theorem RH {i c:Int}(h:ga i c=0):iA .u64 (hk .u64 (IntKind.u64.wrap i) 8) (IntKind.u64.wrap (IntKind.i64.wrap (c+1)))=i*256+(c+1):=by
 obtain⟨⟨e,f⟩,g,j⟩:=vM h;rw[bq (x:=c+1) (by omega) (by omega),kT (x:=c+1) (by omega) (by omega),kT (x:=i) (by omega) (by omega)];have a:hk .u64 i 8=i*256:=by
  show IntKind.u64.wrap (i*2 ^ 8)=_
  grind[kT]
 rw[a];obtain⟨n,rfl⟩:=qd (show 0<=i by omega);obtain⟨m,hm⟩:=qd (show 0<=c+1 by omega);rw[hm];have b:(n:Int)*256=((n*256:Nat):Int):=(Int.natCast_mul n 256).symm;rw[b,tS _ _ (by omega) (by omega)];have d:=w3 n m 8 (by omega)
 grind
theorem zQ (w:aj)(x a b:Int):a9 141 [.int .i64 x,.int .i64 a,.int .i64 b] w λv w'=>v=.bool (decide (a<=x/\x<=b))/\w'=w:=by
 refine a' Tryz.func141 ?_
 grind[IG]
theorem RI (w:aj)(i:Int):a9 178 [.int .i64 i] w λv w'=>v=.bool (n6 i)/\w'=w:=by
 refine a' Tryz.func178 ?_;rw[KR];refine aE (zQ w i 1 59) ?_
 grind[n6]
theorem Ng (w:aj)(c:Int):a9 158 [.int .i64 c] w λv w'=>v=.bool (decide (0<=c/\c<6))/\w'=w:=by
 refine a' Tryz.func158 ?_;rw[I0];refine aE (zQ w c 0 5) ?_
 grind
abbrev P' (w:aj)(i c:Int):bg:=λx w'=>x=.tuple #[.int .u64 (gv i c),.int .i64 (ga i c)]/\w'=w
theorem N4 {i c:Int}(h:n6 i=false):gv i c=0/\ga i c=2:=by
 have e:ga i c=2:=bm h;refine⟨?_,e⟩;unfold gv
 grind
theorem N5 {i c:Int}(h:n6 i=true)(a:¬ (0<=c/\c<6)):gv i c=0/\ga i c=1:=by
 have e:ga i c=1:=by unfold ga;grind
 refine⟨?_,e⟩;unfold gv
 grind
theorem Gc {i c:Int}(h:n6 i=true)(a:0<=c/\c<6):ga i c=0:=by unfold ga;grind
theorem Ak {i c:Int}(h:ga i c=0):gv i c=i*256+(c+1):=bm h
theorem wW (w:aj)(i c:Int):a9 128 [.int .i64 i,.int .i64 c] w (P' w i c):=by
 refine a' Tryz.func128 ?_;rw[Lw];refine aE (RI w i) ?_;rintro v w1 ⟨rfl,rfl⟩;refine⟨_,rfl,eu (λb=>?_) (λd=>?_)⟩
 ·grind[N4]
 refine aE (Ng w1 c) ?_;rintro v f ⟨rfl,rfl⟩;refine⟨_,rfl,eu (λb=>?_) (λa=>?_)⟩
 ·grind[N5,of_decide_eq_false]
 ·have e:=Gc d (qa a)
  grind[RH,Ak]
abbrev Nh (w:aj)(t:Int):bg:=λx w'=>x=.tuple #[.int .i64 (lr t),.int .i64 (lu t),.bool (mZ t)]/\w'=w
theorem Ej {t:Int}(h:ga (t / 256) (t % 256-1)≠0):lr t=0/\lu t=0/\mZ t=false:=⟨aW h,aW h,decide_eq_false h⟩
theorem zR {t:Int}(h:ga (t / 256) (t % 256-1)=0):lr t=t / 256/\lu t=t % 256-1/\mZ t=true:=⟨bm h,bm h,tF h⟩
theorem Tu {t:Int}(a:ch t):cD .u64 t 8=t / 256:=by
 show Int.fdiv t 256=_
 grind
theorem Qa (w:aj):a9 198 [.int .i64 8] w λv w'=>v=.int .u64 255/\w'=w:=by refine a' Tryz.func198 ?_;rw[K_];exact⟨by decide,by rfl,rfl⟩
theorem CJ (w:aj){t:Int}(d:ch t):a9 177 [.int .u64 t] w (Nh w t):=by
 have g:=d.1;have i:=d.2;refine a' Tryz.func177 ?_;rw[JY];rw[Tu d];refine a5 (λh=>?_) (λh=>?_)
 ·refine aE (Qa w) ?_;rintro v w1 ⟨rfl,rfl⟩;refine⟨_,rfl,?_⟩;have f:ee .u64 t 255=t % 256:=Dz g i 8 (by omega);dsimp only;rw[f,bq (x:=t / 256) (by omega) (by omega),bq (x:=t % 256) (by omega) (by omega),bq (x:=t % 256-1) (by omega) (by omega)];refine aE (wW w1 (t / 256) (t % 256-1)) ?_
  grind[Ej,zR,Ak]
 ·have e:ga (t / 256) (t % 256-1)=2:=N3 (by grind);obtain⟨a,b,c⟩:=Ej (t:=t) (by grind);refine aE (wW w 0 0) ?_;rintro v k ⟨rfl,rfl⟩;have j:ga 0 0=2:=by decide
  grind
structure bM where
 a3:Int
 inc:Int
 lines:Int
 v:jj
 dead:Int
 fk:Int
 prev:Int
def bM.tail (j:bM):Int:=
 if j.lines<98\/256<j.lines then 18 else if j.dead=j.a3/\j.fk≠j.inc then 1
 else if j.dead≠j.a3/\(j.fk<2\/60<j.fk\/Int.tmod j.fk 2≠0)then 2
 else if j.prev≠0/\(mZ j.prev=false\/lu j.prev=j.a3/\j.inc<=lr j.prev\/lu j.prev=j.dead/\j.fk<=lr j.prev)then 1 else 0
def bM.valid (j:bM):Int:=
 if ga j.inc j.a3≠0 then ga j.inc j.a3 else if j.dead<0\/6<=j.dead then 1 else if j.v.valid 5≠0 then j.v.valid 5 else j.tail
structure qj (w:aj)(r:c3)(j:bM):Prop where
 a3:r.Client=j.a3
 inc:r.ia=j.inc
 lines:r.et=j.lines
 view:∃ M,gi M w r.View j.v
 dead:r.eX=j.dead
 fk:r.fR=j.fk
 prev:r.hU=j.prev
 u64:ch r.hU
theorem qj.new {w w':aj}{r:c3}{j:bM}(h:qj w r j)(a:ai w w'):qj w' r j:=⟨h.a3,h.inc,h.lines,h.view.imp λ_ h=>h.new a,h.dead,h.fk,h.prev,h.u64⟩
end Go.Proofs.YtmkljjbioomepaaGreat
set_option linter.unusedSectionVars false
namespace Go.Proofs.YtmkljjbioomepaaGreat
open Go.bd Go.RowKit
def plus (a:Act)(ds:List Deferred):Act:={a with defers:=a.defers++ds}
def mu (ds:List Deferred)(a:au):Act:={tmps:=a.toArray,defers:=ds}
theorem Pg (ds:List Deferred)(a:au):plus (act a) ds=mu ds a:=rfl
theorem k_ (a:Act)(ds:List Deferred)(d:Option Tmp)(v:bl):(plus a ds).put d v=plus (a.put d v) ds:=by cases d<;>rfl
theorem zS (a:Act)(ds:List Deferred):(plus a ds).eval=a.eval:=by funext x;cases x<;>rfl
def hM (F:Fence):Prop:=F=Fence.wide\/∃ r,F=Fence.wide.inRound r
theorem CQ:hM Fence.wide:=.inl rfl
theorem CK (r:Nat):hM (Fence.wide.inRound r):=.inr ⟨r,rfl⟩
section
variable {P:c7}{F:Fence}{n:Nat}{ds:List Deferred}{Q jg:Exit->Act->aK}
theorem hM.fn (h:hM F)(f:FuncId):F.fn f:=by rcases h with rfl | ⟨r,rfl⟩<;>trivial
theorem hM.depth (h:hM F):F.depth=none:=by rcases h with rfl | ⟨r,rfl⟩<;>rfl
theorem hM.fenced (h:hM F):Machine.fenced P F=Machine.fenced P Fence.wide:=by rcases h with rfl | ⟨r,rfl⟩<;>rfl
theorem hM.calls (h:hM F){f:FuncId}{args:en}{w:aj}{R:Ending->aK}(k:Calls P f args w R):CallsIn F n P f args w R:=by
 rcases h with rfl | ⟨r,rfl⟩
 ·exact callsIn_wide.2 k
 ·exact CallsIn.inRound r (callsIn_wide.2 k)
theorem hM.rows (h:hM F){row:String}{args:en}{w:aj}{R:bg}(k:Rows P row args w R):RowsIn F n P row args w R:=by intro c cs _;obtain⟨v,w',r,s⟩:=k c cs;exact⟨v,w',r,by rw[h.fenced];exact stepsIn_wide.2 s⟩
def sY (o:Oper):Bool:=match o.op with
 |.defer _=>false
 | _=>true
theorem hM.IH (h:hM F){o:Oper}(d:sY o=true)(a:Operand->bl):o.semAt F.round a=execOp a o:=by
 rcases h with rfl | ⟨r,rfl⟩
 ·exact Oper.semAt_none _ _
 ·exact Oper.semAt_some _ _ _ λc b=>by grind[sY]
theorem hM.one (h:hM F):F.depth.isSome=true->1<=n:=λa=>by rw[h.depth]at a;cases a
theorem Qb (b:hM F){o:Oper}{a:Act}{next next':Act->aK}(g:∀ a w,next a w->next' (plus a ds) w)(j:∀ c a w,¬ Q (.panic c) a w)(l:¬ LetsOut Q) :
  ∀ {x:Result Go.Next},o.upon P a next Q x->o.uponIn F n P (plus a ds) next' jg x
 |.ok (.value v) w',h=>by rw[Oper.uponIn_value,k_];exact g _ _ h
 |.ok .skip w',h=>by rw[Oper.uponIn_skip,k_];exact g _ _ h
 |.ok (.defer d) w',h=>by rw[Oper.uponIn_defer];have e:({plus a ds with defers:=d::(plus a ds).defers}:Act)=plus {a with defers:=d::a.defers} ds:=rfl;rw[e,k_];exact g _ _ h
 |.ok (.enter f args) w',h=>by
  rw[Oper.uponIn_enter];refine⟨b.one,b.calls (Calls.mono h λe i k=>?_)⟩
  grind[plus,k_]
 |.ok (.row row args) w',h=>by
  rw[Oper.uponIn_row];refine⟨b.one,b.rows (Rows.mono h λv i k=>?_)⟩
  grind[k_]
 |.ok (.round ..) w',h=>h.elim
 |.halt (.panic v) w',h=>b_ h (j _ _ _)
 |.halt .blocked _,h=>h.elim
 |.halt .waiting _,h=>h.elim
 |.halt (.exit _) _,h=>h.elim
 |.halt (.stuck _) _,h=>h.elim
 |.halt (.unsupported _) _,h=>h.elim
theorem Gd (e:hM F){md:Region.Mode}{ops:Array Oper}(k:∀ o ∈ ops.toList,sY o=true)(j:∀ a w,Q .normal a w->jg .normal (plus a ds) w)(p:∀ c a w,¬ Q (.panic c) a w)(l:¬ LetsOut Q) :
  ∀ (fuel:Nat) (b:Array Bool) (a:Act) (w:aj),wpAny P md ops Q fuel b a w->wpAnyIn F n P md ops jg fuel b (plus a ds) w
 | 0,b,a,w,h=>⟨h.1,j _ _ h.2⟩
 |fuel+1,b,a,w,h=>by
  refine⟨λs=>j _ _ (h.1 s),λi q=>?_⟩;have d:=h.2 i q;have u:=Gd (md:=md) e k j p l fuel (b.setIfInBounds i true);unfold wpOp at d;unfold wpOpIn;cases r:ops[i]? with
  |none=>
   grind
  |some o=>
   simp only[r]at d ⊢;have g:o ∈ ops.toList:=by
    grind
   have t:(plus a ds).tmps=a.tmps:=rfl;rw[t];split at d
   ·rename_i hw;rw[bm hw];refine⟨λf _=>e.fn f,?_⟩;rw[e.IH (k o g),zS];rcases d with d | ⟨_,d⟩
    ·exact Qb e u p l d
    grind
   ·rename_i hw;rw[aW hw];refine⟨λf _=>e.fn f,?_⟩
    grind[k_]
theorem Ni (b:hM F){o:Oper}{a:Act}{next next':Act->aK}(g:∀ a w,next a w->next' (plus a ds) w)(p:∀ c a w,¬ Q (.panic c) a w)(r:¬ LetsOut Q) :
  ∀ {x:Result Go.Next},o.uponIn Fence.wide 0 P a next Q x->o.uponIn F n P (plus a ds) next' jg x
 |.ok (.value v) w',h=>by rw[Oper.uponIn_value,k_];exact g _ _ h
 |.ok .skip w',h=>by rw[Oper.uponIn_skip,k_];exact g _ _ h
 |.ok (.defer d) w',h=>by rw[Oper.uponIn_defer];have e:({plus a ds with defers:=d::(plus a ds).defers}:Act)=plus {a with defers:=d::a.defers} ds:=rfl;rw[e,k_];exact g _ _ h
 |.ok (.enter f args) w',h=>by
  rw[Oper.uponIn_enter];refine⟨b.one,b.calls (Calls.mono (callsIn_wide.1 h.2) λe q k=>?_)⟩
  grind[plus,k_]
 |.ok (.row row args) w',h=>by
  rw[Oper.uponIn_row];refine⟨b.one,λc cs _=>?_⟩;obtain⟨v,j,k,i⟩:=h.2 c cs (room_wide _);refine⟨v,j,?_,by rw[b.fenced];exact i⟩
  grind[plus,k_]
 |.ok (.round l f tmps assign body) w',h=>by
  rw[Oper.uponIn_round];refine⟨b.one,b.fn _,λc cs _=>?_⟩;obtain⟨e,j,k,i⟩:=h.2.2 c cs (room_wide _);refine⟨e,j,?_,by rw[b.fenced];exact i⟩
  grind[plus,k_]
 |.halt (.panic v) w',h=>b_ h (p _ _ _)
 |.halt .blocked _,h=>h.elim
 |.halt .waiting _,h=>h.elim
 |.halt (.exit _) _,h=>h.elim
 |.halt (.stuck _) _,h=>h.elim
 |.halt (.unsupported _) _,h=>h.elim
theorem Fe (b:hM F){ops:Array Oper}(e:∀ a w,Q .normal a w->jg .normal (plus a ds) w)(k:∀ c a w,¬ Q (.panic c) a w)(i:¬ LetsOut Q) :
  ∀ (l:e9) (a:Act) (w:aj),(∀ o ∈ l,sY o=true)->wpListIn Fence.wide 0 P ops Q l a w->wpListIn F n P ops jg l (plus a ds) w
 | [],a,w,_,h=>e _ _ h
 |o::l,a,w,d,h=>by
  have p:=λa w=>Fe b (ops:=ops) e k i l a w λo j=>d o (gm _ j)
  unfold wpListIn at h ⊢;split at h
  ·rename_i hw;show(if Region.wanted o (yielded ops a.tmps)then _ else _);rw[bm hw];refine⟨λf _=>b.fn f,?_⟩;have g:=h.2;rw[show Fence.wide.round=none from rfl,Oper.semAt_none]at g;rw[b.IH (d o g_),zS]
   grind[Ni]
  ·rename_i hw;show(if Region.wanted o (yielded ops a.tmps)then _ else _);rw[aW hw];refine⟨λf _=>b.fn f,?_⟩
   grind[k_]
end
def mb (ds:List Deferred)(Q:Exit->au->aK):Exit->Act->aK
 |.panic _,_,_=>False
 |.outgrown,_,_=>False
 |e,a,w=>a.defers=ds/\Q e a.tmps.toList w
theorem g0 {ds:List Deferred}{Q:Exit->au->aK}{e:Exit}{env:au}{w:aj}(h:Q e env w)(he:(∀ c,e≠.panic c)/\e≠.outgrown):mb ds Q e (mu ds env) w:=by
 cases e with
 |panic c=>grind
 |outgrown=>grind
 | _=>exact⟨rfl,by grind[mu]⟩
theorem mB {ds:List Deferred}{Q:Exit->au->aK}{e:Exit}{a:Act}{w:aj}(h:mb ds Q e a w):((∀ c,e≠.panic c)/\e≠.outgrown)/\∃ env,a=mu ds env/\Q e env w:=by
 have mk:∀ (a:Act),a.defers=ds->a=mu ds a.tmps.toList:=λa b=>by
  cases a with
  |mk t d=>simp only at b;subst b;simp[mu]
 cases e with
 |panic c=>exact h.elim
 |outgrown=>exact h.elim
 |normal=>exact⟨⟨λ_=>by simp,by simp⟩,_,mk a h.1,h.2⟩
 |exit i=>exact⟨⟨λ_=>by simp,by simp⟩,_,mk a h.1,h.2⟩
 |goto i=>exact⟨⟨λ_=>by simp,by simp⟩,_,mk a h.1,h.2⟩
 |ret=>exact⟨⟨λ_=>by simp,by simp⟩,_,mk a h.1,h.2⟩
def ky:Code->Bool
 |.region _ ops _=>ops.toList.all sY
 |.seq a b=>ky a && ky b
 |.cond _ a b=>ky a && ky b
 |.block _ c=>ky c
 |.skip=>true
 |.exit _=>true
 |.ret=>true
 | _=>false
theorem SJ (ds:List Deferred)(a:au):(mu ds a).eval=cg a:=by rw[<-Pg,zS,tu]
theorem Nj {P:c7}{ops:e9}{env:au}{K:au->aK}{Q:Exit->Act->aK}{w:aj}(d:Region.noSelect ops.toArray=true)
  (b:∀ env w,K env w->Q .normal (act env) w) (c4:∀ c a w,¬ Q (.panic c) a w) (h:uw P ops env K w):wpAny P .any ops.toArray Q ops.toArray.size (Array.replicate ops.toArray.size false) (act env) {w with drawn:=w.drawn+1}:=by
 unfold uw at h;split at h
 ·obtain⟨S,e,h⟩:=h _ rfl;refine vE (S:=S) (nd:=w9 ops (Ad ops)) _ _ _ _ ?_;have:=nF (ED ops _) d b c4 _ _ _ _ _ (y4 _ _) (λ_=>e) h
  simp_all
 ·refine vE (S:=λ_=>True) (nd:=q7 ops) _ _ _ _ ?_;have:=nF (Ae ops) d b c4 _ _ _ _ _ (y4 _ _) (λ_=>trivial) (h _ rfl)
  simp_all
def uJ (K:au->aK):Exit->Act->aK
 |.normal,a,w=>∃ env,a=act env/\K env w
 | _,_,_=>False
theorem nt {P:c7}(hm:P.follows .mixedOrders=true){F:Fence}(j:hM F){n:Nat}{ds:List Deferred}:∀ (c:Code) (env:au) (Q:Exit->au->aK) (w:aj),
  ky c=true->W P c env Q w->c.wpIn F n P (mb ds Q) (mu ds env) w
 |.skip,env,Q,w,d,h=>by rw[W.eq_def]at h;exact wpIn_skip (g0 h ⟨λ_=>by simp,by simp⟩)
 |.region id ops draw,env,Q,w,d,h=>by
  have e:∀ a w,uJ (Q .normal) .normal a w->mb ds Q .normal (plus a ds) w:=by rintro _ w ⟨f,rfl,A⟩;exact g0 A ⟨λ_=>by simp,by simp⟩
  have u:∀ c a w,¬ uJ (Q .normal) (.panic c) a w:=λc a w h=>h
  have z:¬ LetsOut (uJ (Q .normal)):=λ⟨_,_,h⟩=>h
  have l:∀ o ∈ ops.toList,sY o=true:=iz.1 d;rw[W.eq_def]at h;cases draw with
  |true=>
   simp only at h;split at h
   ·rename_i C;have y:=Nj (Q:=uJ (Q .normal)) (by simp_all) (λenv w s=>⟨env,rfl,s⟩) u h;simp only[Array.toArray_toList]at y;exact wpIn_region_any hm (Gd j l e u z _ _ _ _ y)
   grind
  |false=>simp only at h;exact wpIn_region_list (Fe j e u z _ _ _ l (by simpa using oU (all:=ops.toList) (Q:=uJ (Q .normal)) ops.toList env w (Q .normal) (λenv w s=>⟨env,rfl,s⟩) h))
 |.seq a b,env,Q,w,d,h=>by
  rw[W.eq_def]at h;have d:(ky a && ky b)=true:=d;simp only[fP]at d;have q:=nt hm j (n:=n) (ds:=ds) a env _ w d.1 h;refine wpIn_seq (wpIn_mono q λx bS w' g=>?_);obtain⟨k,f,r,e⟩:=mB g;subst r;clear g;cases x with
  |normal=>exact nt hm j b f Q w' d.2 e
  |panic c=>grind
  |outgrown=>grind
  |exit i=>exact g0 e k
  |goto i=>exact g0 e k
  |ret=>exact g0 e k
 |.cond o a b,env,Q,w,d,h=>by
  rw[W.eq_def]at h;have d:(ky a && ky b)=true:=d;simp only[fP]at d;simp only at h;split at h
  ·rename_i t B;refine wpIn_cond (t:=t) (by rw[SJ];exact B) ?_;cases t with
   |true=>exact nt hm j a env Q w d.1 h
   |false=>exact nt hm j b env Q w d.2 h
  grind
 |.block id c,env,Q,w,d,h=>by
  rw[W.eq_def]at h;have q:=nt hm j (n:=n) (ds:=ds) c env _ w d h;refine wpIn_block (wpIn_mono q λx bS w' g=>?_);obtain⟨k,f,r,e⟩:=mB g;subst r;clear g;cases x with
  |exit i=>
   simp only[aL]at e;simp only[Exit.inBlock];cases p:Nat.beq i id with
   |true=>
    rw[p]at e;rw[bm (o0 p)]
    grind[g0]
   |false=>
    rw[p]at e;rw[aW (Cj p)]
    grind[g0]
  |panic c=>grind
  |outgrown=>grind
  |normal=>exact g0 e k
  |goto i=>exact g0 e k
  |ret=>exact g0 e k
 |.loop c,env,Q,w,d,h=>by cases d
 |.exit i,env,Q,w,d,h=>by rw[W.eq_def]at h;exact wpIn_exit (g0 h ⟨λ_=>by simp,by simp⟩)
 |.ret,env,Q,w,d,h=>by rw[W.eq_def]at h;exact wpIn_ret (g0 h ⟨λ_=>by simp,by simp⟩)
 |.rangeFunc ..,_,_,_,d,_=>by cases d
 |.scope _,_,_,_,d,_=>by cases d
 |.label _,_,_,_,d,_=>by cases d
 |.goto _,_,_,_,d,_=>by cases d
 |.refuse _,_,_,_,d,_=>by cases d
def kp (Q:Exit->au->aK):Exit->au->aK
 |.exit i,env,w=>match Nat.beq i 77 with
  |true=>False
  |false=>Q (.exit i) env w
 |e,env,w=>Q e env w
def j4:Code->Bool
 |.region ..=>true
 |.seq a b=>j4 a && j4 b
 |.cond _ a b=>j4 a && j4 b
 |.block id c=>!Nat.beq 77 id && j4 c
 |.skip=>true
 |.exit i=>!Nat.beq i 77
 |.ret=>true
 | _=>false
theorem z_ {N:au->aK}{Q:Exit->au->aK}:kp (aM N Q)=aM N (kp Q):=by funext e env w;cases e<;>rfl
theorem CR {id:Nat}(h:Nat.beq 77 id=false){Q:Exit->au->aK}:kp (aL id Q)=aL id (kp Q):=by
 funext e env w;cases e with
 |exit i=>
  simp only[kp,aL]
  grind[Nat.eq_of_beq_eq_true,Nat.beq_refl]
 | _=>rfl
theorem qu {P:c7}:∀ (c:Code) (env:au) (Q:Exit->au->aK) (w:aj),j4 c=true->W P c env (kp Q) w=W P c env Q w
 |.skip,env,Q,w,_=>by rw[W.eq_def,W.eq_def];rfl
 |.region id ops draw,env,Q,w,_=>by rw[W.eq_def,W.eq_def];rfl
 |.seq a b,env,Q,w,h=>by have h:(j4 a && j4 b)=true:=h;simp only[fP]at h;rw[W.eq_def P (.seq a b),W.eq_def P (.seq a b)];show W P a env (aM (λenv w=>W P b env (kp Q) w) (kp Q)) w=W P a env (aM (λenv w=>W P b env Q w) Q) w;rw[<-z_,qu a env _ w h.1];congr 2;funext env w;exact qu b env Q w h.2
 |.cond c x y,env,Q,w,h=>by have h:(j4 x && j4 y)=true:=h;simp only[fP]at h;rw[W.eq_def P (.cond c x y),W.eq_def P (.cond c x y)];simp only[qu x env Q w h.1,qu y env Q w h.2]
 |.block id c,env,Q,w,h=>by have h:(!Nat.beq 77 id && j4 c)=true:=h;simp only[fP,vV]at h;rw[W.eq_def P (.block id c),W.eq_def P (.block id c)];show W P c env (aL id (kp Q)) w=W P c env (aL id Q) w;rw[<-CR h.1,qu c env _ w h.2]
 |.exit i,env,Q,w,h=>by
  have h:(!Nat.beq i 77)=true:=h;rw[W.eq_def,W.eq_def]
  grind[Bool.not_eq_true',kp]
 |.ret,env,Q,w,_=>by rw[W.eq_def,W.eq_def];rfl
 |.loop ..,_,_,_,h=>by cases h
 |.rangeFunc ..,_,_,_,h=>by cases h
 |.scope ..,_,_,_,h=>by cases h
 |.label ..,_,_,_,h=>by cases h
 |.goto ..,_,_,_,h=>by cases h
 |.refuse ..,_,_,_,h=>by cases h
def m7:Code->cV->Code
 | _,[]=>.exit 77
 |.seq a b,n::p=>match n with | 0=>.seq (m7 a p) b | _=>.seq a (m7 b p)
 |.block id c,_::p=>.block id (m7 c p)
 |c,_=>c
def qv:Code->cV->Bool
 | _,[]=>true
 |.seq a b,n::p=>match n with | 0=>qv a p && (ky b && j4 b) | _=>(ky a && j4 a) && qv b p
 |.block id c,_::p=>!Nat.beq 77 id && qv c p
 | _,_=>false
def rT (F:Fence)(n:Nat)(P:c7):Code->cV->(Exit->Act->aK)->Exit->Act->aK
 | _,[],Q=>Q
 |.seq a b,m::p,Q=>match m with
  | 0=>rT F n P a p (Exit.then (λa w=>b.wpIn F n P Q a w) Q)
  | _=>rT F n P b p Q
 |.block id c,_::p,Q=>rT F n P c p (Exit.inBlock id Q)
 | _,_,Q=>Q
theorem ST {P:c7}(hm:P.follows .mixedOrders=true){F:Fence}(y:hM F){n:Nat}{ds:List Deferred}:∀ (p:cV) (c:Code) (env:au) (Q:Exit->au->aK) (q:Exit->Act->aK) (w:aj),
  qv c p=true->W P (m7 c p) env Q w->(∀ env w,Q (.exit 77) env w->(sub c p).wpIn F n P (rT F n P c p q) (mu ds env) w)->
  (∀ e a w,mb ds (kp Q) e a w->q e a w)->c.wpIn F n P q (mu ds env) w:=by
 intro p;induction p with
 |nil=>
  intro c env Q q w g h r l;have k:W P (.exit 77) env Q w:=by cases c<;>exact h
  rw[W.eq_def]at k;have o:=r env w k;have z:sub c []=c:=by rw[sub.eq_def]
  grind[rT]
 |cons m p x=>
  intro c env Q q w g h r l;cases c with
  |seq a b=>
   cases m with
   |zero=>
    have g:(qv a p && (ky b && j4 b))=true:=g;simp only[fP]at g;have k:W P (.seq (m7 a p) b) env Q w:=h;rw[W.eq_def]at k;refine wpIn_seq ?_;refine x a env _ (Exit.then (λa w=>b.wpIn F n P q a w) q) w g.1 k (λenv w o=>?_) (λe a w o=>?_)
    ·have:=r env w o;rw[sub.eq_def]at this;exact this
    ·obtain⟨d,f,rfl,j⟩:=mB o;rw[z_]at j;cases e with
     |normal=>
      have u:W P b f (kp Q) w:=by rw[qu b f Q w g.2.2];exact j
      exact wpIn_mono (nt hm y b f _ w g.2.1 u) l
     |panic c=>grind
     |outgrown=>grind
     |exit i=>exact l _ _ _ (g0 j d)
     |goto i=>exact l _ _ _ (g0 j d)
     |ret=>exact l _ _ _ (g0 j d)
   |succ m=>
    have g:((ky a && j4 a) && qv b p)=true:=g;simp only[fP]at g;have k:W P (.seq a (m7 b p)) env Q w:=h;rw[W.eq_def]at k;have k:W P a env (aM (λenv w=>W P (m7 b p) env Q w) Q) w:=k;rw[<-qu a env _ w g.1.2,z_]at k;refine wpIn_seq (wpIn_mono (nt hm y a env _ w g.1.1 k) λe a w o=>?_);obtain⟨d,f,rfl,j⟩:=mB o;cases e with
    |normal=>refine x b f Q q w g.2 j (λenv w t=>?_) l;have:=r env w t;rw[sub.eq_def]at this;exact this
    |panic c=>grind
    |outgrown=>grind
    |exit i=>exact l _ _ _ (g0 j d)
    |goto i=>exact l _ _ _ (g0 j d)
    |ret=>exact l _ _ _ (g0 j d)
  |block id c=>
   have g:(!Nat.beq 77 id && qv c p)=true:=g;simp only[fP,vV]at g;have k:W P (.block id (m7 c p)) env Q w:=h;rw[W.eq_def]at k;have k:W P (m7 c p) env (aL id Q) w:=k;refine wpIn_block ?_;refine x c env (aL id Q) _ w g.2 k (λenv w o=>?_) (λe a w o=>?_)
   ·have t:Q (.exit 77) env w:=by simp only[aL,g.1]at o;exact o
    have:=r env w t;rw[sub.eq_def]at this;exact this
   ·obtain⟨d,f,rfl,j⟩:=mB o;rw[CR g.1]at j;cases e with
    |exit i=>
     simp only[aL]at j;simp only[Exit.inBlock];cases s:Nat.beq i id with
     |true=>
      rw[s]at j;rw[bm (o0 s)]
      grind[g0]
     |false=>
      rw[s]at j;rw[aW (Cj s)]
      grind[g0]
    |panic c=>grind
    |outgrown=>grind
    |normal=>exact l _ _ _ (g0 j d)
    |goto i=>exact l _ _ _ (g0 j d)
    |ret=>exact l _ _ _ (g0 j d)
  | _=>cases g
theorem LV {P:c7}{t:bU}{x:bl}{K e:bg}{w w':aj}(f:∀ a v,w.cell? a=some v->w'.cell? a=some v)(j:∀ v,K v w->e v w')(h:oc P t x K w):oc P t x e w':=by
 have c:∀ (vs:au) (a:aw) (i:Nat),b6 w a i vs->b6 w' a i vs:=by
  intro vs;induction vs with
  |nil=>intro a i h;exact trivial
  |cons v vs k=>intro a i h;exact⟨f _ _ h.1,k _ _ h.2⟩
 unfold oc at h ⊢;split at h
 ·split at h
  ·grind
  ·rename_i inf g;split at h
   ·rename_i b;split at h
    ·rename_i n;exact D' (λvs h=>⟨c _ _ _ h.1,j _ h.2⟩) h
    grind
   ·rename_i b;split at h
    ·grind
    ·rename_i d l;exact D_ (λv h=>⟨f _ _ h.1,j _ h.2⟩) h
 grind
theorem zT {P:c7}{env:au}{w w':aj}(b:∀ c v,w.cell? c=some v->w'.cell? c=some v):∀ (rs:List ResultVar) {K:au->Prop},nQ P rs env K w->nQ P rs env K w'
 | [],K,h=>h
 |.tmp t::rs,K,h=>zT b rs h
 |.cell a t::rs,K,h=>LV b (λv h=>⟨rfl,zT b rs h.2⟩) h
theorem Qc {P:c7}{fn:Func}{R:bg}{n D:Nat}{e:Exit}{a:Act}{w:aj}{f:Ending->aK}(l:∀ v,R v w->w.heap[D]?=some (.deferred (some []))/\f (.returned v) (w.putObj D (.deferred none)))
  (h:mb [{target:=.collected D,args:=#[]}] (cS P fn R) e a w):bodyPostM Fence.wide n P fn f e a w:=by
 have main:∀ env,nQ P fn.results.toList env (λvs=>R (ta vs) w) w->LeavesInM Fence.wide n P fn env.toArray f [{target:=.collected D,args:=#[]}] .returning w:=by
  intro env h;obtain⟨vs,_,j⟩:=wc _ _ h;have k:=(l _ j).1;have r:∀ b v,w.cell? b=some v->(w.putObj D (.deferred none)).cell? b=some v:=by
   intro b v h;obtain⟨o,p,q⟩:=cells_of_cell h;have g:b.block≠D:=by intro e;rw[e,k]at p;cases p;cases q
   rw[World.cell?_of_block (w:=w)]
   ·exact h
   ·exact World.putObj_heap_other g
  obtain⟨v,ar,j⟩:=y5 (P:=P) (fn:=fn) (env:=env) (w:=w.putObj D (.deferred none)) (K:=λv=>R v w) (zT r _ h);exact⟨by simp,.inl ⟨_,_,rfl,run_takeDeferred k,⟨_,ar,(l v j).2⟩⟩⟩
 obtain⟨s,env,rfl,d⟩:=mB h;cases e with
 |normal=>exact main env d
 |ret=>exact main env d
 |panic c=>grind
 |outgrown=>grind
 |exit i=>exact d.elim
 |goto i=>exact d.elim
theorem Ph {P:c7}{fn:Func}{R:bg}{n:Nat}{e:Exit}{a:Act}{w:aj}{d:Ending->aK}(f:∀ v,R v w->d (.returned v) w)
  (h:mb [] (cS P fn R) e a w):bodyPostM Fence.wide n P fn d e a w:=by
 have main:∀ env,nQ P fn.results.toList env (λvs=>R (ta vs) w) w->LeavesInM Fence.wide n P fn env.toArray d [] .returning w:=by intro env h;obtain⟨v,ar,g⟩:=y5 (P:=P) (fn:=fn) (env:=env) (w:=w) (K:=λv=>R v w) h;exact⟨_,ar,f v g⟩
 obtain⟨j,env,rfl,b⟩:=mB h;cases e with
 |normal=>exact main env b
 |ret=>exact main env b
 |panic c=>grind
 |outgrown=>grind
 |exit i=>exact b.elim
 |goto i=>exact b.elim
def pf (K:au->aK):Exit->au->aK
 |.exit i,env,w=>match Nat.beq i 77 with
  |true=>K env w
  |false=>False
 | _,_,_=>False
theorem Pj {P:c7}{fn:Func}{R:bg}{K:au->aK}{ds:List Deferred}{e:Exit}{a:Act}{w:aj}(h:mb ds (kp (aV P fn R (pf K))) e a w):mb ds (cS P fn R) e a w:=by
 obtain⟨f,env,rfl,b⟩:=mB h;cases e with
 |normal=>exact b.elim
 |ret=>exact g0 b f
 |panic c=>grind
 |outgrown=>grind
 |exit i=>
  simp only[kp]at b;cases d:Nat.beq i 77 with
  |true=>grind
  |false=>
   rw[d]at b;have b:pf K (.exit i) env w:=b
   grind[pf]
 |goto i=>exact b.elim
end Go.Proofs.YtmkljjbioomepaaGreat
