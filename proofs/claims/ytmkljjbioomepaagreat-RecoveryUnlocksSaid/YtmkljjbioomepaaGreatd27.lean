import Derived.Test.YtmkljjbioomepaaGreatd26
import Derived.Test.YtmkljjbioomepaaGreatd19
set_option linter.all false
set_option maxHeartbeats 4000000
set_option maxRecDepth 100000
namespace Go.Proofs.YtmkljjbioomepaaGreat
open Go.Proofs.Tryz Go.bs
variable {A:a6} {B dc k9 i n pc gZ aI tb:Nat} {L:List (aQ×de)} {iI:Exit->ax->aF} {R:cz} {V:gl} {dB jg a2 pb:an} {ds:List aM} {j:ca} {m:a0} {o:Int×Int} {r:dE} {raw:List bT} {u bw bG w0 z:ak}
section
section
attribute [local irreducible] iA jk m0
theorem zq (w:ak) {i:Int} (g:0<=i/\i<6):bb 106 [.int .i64 i] w λv w'=>v=.int .i64 (24+i)/\ai w w':=by
 refine bd Tryz.func106 ?_;rw [Hr];refine aD (yw _ _ _) ?_;rintro v w1 ⟨cB,d,rfl,a,b,e⟩;have c:=yx;refine ⟨_,rfl,?_⟩;have f:(#[]++#[.int .i64 i]++#[ptr cB,ptr d]:Array a4)=#[.int .i64 i,ptr cB,ptr d]:=by simp
 refine q4 c f ?_;refine aD (yh w1 a b (by omega) (by omega) i) ?_;rintro v h ⟨rfl,rfl⟩;refine ⟨_,rfl,?_,e⟩;unfold m';rw [if_neg (by omega),show (3:Int) * 8+i=24+i by omega]
end
theorem EH (w:ak) {c:Int} (a:0<=c/\c<6):bb 224 [.int .i64 c] w λv w'=>v=.int .i64 (e' c+1)/\w'=w:=by refine bd Tryz.func224 ?_;rw [Iv];refine aD (Bj w a (i:=1) (by omega)) ?_;rintro v w1 ⟨rfl,rfl⟩;exact ⟨_,rfl,rfl,rfl⟩
theorem bK.one {u bG c:ak} {v:aG} {x:aQ} {b:Nat} (hu:ai u bG) (al:cL (λk=>k<u.heap.size) bG v x) (h:b=bG.heap.size) (au:av c b v.cells cF) (g:ai bG c):bK u c (some ⟨b,0,none⟩) 1 1 [x]:=by
 have i:=hu.size;refine ⟨⟨[v],⟨by simp [dP];rfl,.inr ⟨b,v.cells,rfl,au,cY 1,by decide,by rw [aG.len],by simp [dP];exact h1 (by rw [aG.len];decide)⟩⟩,et.one ?_⟩,rfl,λk d=>?_⟩
 ·exact al.aA (ao.b9 g) λk f e=>by
   rcases e with e | ⟨o,a⟩
   ·exact e
   ·exact absurd (congrArg (λo=>o.map Addr.block) a) (by simp;omega)
 ·obtain ⟨o,a⟩:=d;simp at a <;> omega
abbrev lq (A:a6) (w0 u:ak) (aI tb:Nat) (r:dE) (m:a0) (j:ca) (V:gl) (R:cr) (v:a4) (bw:ak):Prop:=v=.bool R.ok/\eF A w0 u aI tb u.heap.size r m j V R bw
theorem eF.of {B':Nat} {R:cr} (h:eF A w0 bG aI tb B r m j V R bw) (l:ai u bG) (o:B'<=B):eF A w0 u aI tb B' r m j V R bw:=by
 refine ⟨(ao.b9 l).trans h.aA λ_ _ e=>e,h.eD,?_⟩;obtain ⟨c,i,k,a⟩:=h.fY;refine ⟨c,i,k,?_⟩;cases b:R.ask with
 |none=>rw [b] at a;exact a
 |some vs=>rw [b] at a;obtain ⟨d,w1,f,n,g⟩:=a;exact ⟨d,w1,f,by omega,g⟩
def bP (G:List (List aM)) (vs:List aQ):cr:=cm G vs 0
def E_ (j:ca):Int:=e' j.dead+1
def hM (j:ca) (m:a0) (G:List (List aM)):cr:=bP G [r3 j m (E_ j) (gG j.inc j.aW) 0]
def jz (j:ca) (m:a0):aQ:=r3 j m (E_ j) j.prev (gG j.inc j.aW)
def m6 (ds:List aM):Int:=match ds with | []=>0 | d::_=>eb d
def h_ (j:ca) (m:a0) (G:List (List aM)):cr:=
 if (bP G [jz j m]).ok=false then bP G [jz j m]
 else if m6 (bP G [jz j m]).done≠j.prev/\m6 (bP G [jz j m]).done≠gG j.inc j.aW then ⟨false,[],(3,m6 (bP G [jz j m]).done),(bP G [jz j m]).a7,none,false⟩
 else ⟨true,[],(0,0),(bP G [jz j m]).a7,none,false⟩
theorem EI (i c:Int):cj (gG i c):=by
 unfold gG;split
 ·rename_i h;obtain ⟨a,b⟩:=u9 h;exact ⟨by omega,by omega⟩
 ·exact hq
theorem oE {G:List (List aM)} {vs:List aQ} (h:(bP G vs).ok=true):(bP G vs).out=(0,0)/\(bP G vs).ask=none/\(bP G vs).dD=false:=by
 unfold bP cm at h ⊢;split at h
 ·cases h
 split at h
 ·cases h
 rename_i a b;rw [if_neg a,if_neg b];exact ⟨rfl,rfl,rfl⟩
section
variable {A:a6} {w0 u:ak} {aI tb:Nat} {r:dE} {m:a0} {j:ca} {V:gl} {T:gn} {G:List (List aM)}
theorem dg.ee {o:Int×Int} (h:dg w0 u aI tb r m j V o):d9 m.cq:=by have:=h.b8.ee m (b5 h.mem);unfold d9;omega
def jc (r:dE) (tb:Nat) (m:a0) (j:ca) (aI:Nat) (y:ak):Prop:=∃ V o,av y aI (pP r tb m (gG j.inc j.aW) V o) oq
theorem Cb (d:dg w0 u aI tb r m j V (0,0)) (z:eP A w0 u tb T G) (p:ga T):bb 183 [ptr aI] u (lq A w0 u aI tb r m j V (hM j m G)):=by
 refine bd Tryz.func183 ?_;rw [ptr,Tn];rintro w1 n;have e:ai u w1:=by rw [n];exact cK _
 clear n;have b:=d.bB e;have C:=d.aj.lt;have D:=z.aj.lt;have aq:=d.bQ.dead;have q:=d.b8.dead;refine ⟨jc r tb m j aI,⟨_,_,b.aj⟩,a0.aT m ⟨λy c=>by obtain ⟨x,E,c⟩:=c;exact bO c rfl,r.eV,λy c=>by obtain ⟨x,E,c⟩:=c;exact c.cell (i:=5) rfl,_,λy c=>by obtain ⟨x,E,c⟩:=c;exact c.cell (i:=12) rfl,?_⟩⟩;rw [aq];refine aD (EH w1 q) ?_;rintro v H ⟨rfl,rfl⟩;refine ⟨_,rfl,⟨_,_,b.aj⟩,?_⟩;refine aD (vM b d.ee _ (EI _ _) hq) ?_;rintro v I ⟨bj,rfl,t,f⟩;refine aG.aT bj ⟨rfl,⟨_,_,(b.bB f).aj⟩,?_⟩;rintro b1 F h o;obtain ⟨g,l⟩:=bl h o;have g:av F b1 bj.cells cF:=g;clear o;have k:=f.new l;have a:=e.new k;have s:=e.size;have w:=bK.one f t h g l;refine ⟨⟨_,_,(d.bB a).aj⟩,?_⟩;refine aD (nM (d.bB a) (z.new a) p b.new (by omega) (by omega) w (by simp)) ?_;rintro v J ⟨dB,dc,raw,rfl,B,_⟩;exact ⟨_,_,_,_,rfl,⟨_,_,B.eD.aj⟩,rfl,B.of a s⟩
theorem Oi (z:dg w0 u aI tb r m j V (0,0)) (XJ:eP A w0 u tb T G) (Xw:ga T):bb 180 [ptr aI] u (lq A w0 u aI tb r m j V (h_ j m G)):=by
 refine bd Tryz.func180 ?_;rw [ptr,TU];rintro w1 U;have E:ai u w1:=by rw [U];exact cK _
 clear U;have p:=z.bB E;have XK:=z.aj.lt;have XL:=XJ.aj.lt;have aq:=z.bQ.dead;have XC:=z.bQ.prev;have Xy:=z.b8.dead;refine ⟨jc r tb m j aI,⟨_,_,p.aj⟩,a0.aT m ⟨λy g=>by obtain ⟨Y,XI,g⟩:=g;exact bO g rfl,r.eV,λy g=>by obtain ⟨Y,XI,g⟩:=g;exact g.cell (i:=5) rfl,r.hK,λy g=>by obtain ⟨Y,XI,g⟩:=g;exact g.cell (i:=7) rfl,_,λy g=>by obtain ⟨Y,XI,g⟩:=g;exact g.cell (i:=12) rfl,?_⟩⟩;rw [aq,XC];refine aD (EH w1 Xy) ?_;rintro v XV ⟨rfl,rfl⟩;refine ⟨_,rfl,⟨_,_,p.aj⟩,?_⟩;refine aD (vM p z.ee _ z.b8.prev (EI _ _)) ?_;rintro v XW ⟨bj,rfl,XF,F⟩;refine aG.aT bj ⟨rfl,⟨_,_,(p.bB F).aj⟩,?_⟩;rintro b1 XN L W;obtain ⟨I,N⟩:=bl L W;have I:av XN b1 bj.cells cF:=I;clear W;have M:=F.new N;have f:=E.new M;have P:=E.size;have XG:=bK.one F XF L I N;refine ⟨⟨_,_,(z.bB f).aj⟩,?_⟩;refine aD (nM (z.bB f) (XJ.new f) Xw p.new (by omega) (by omega) XG (by simp)) ?_;rintro v XO ⟨dB,dc,raw,rfl,s,XD,q,XE⟩;have s:eF A w0 XN aI tb XV.heap.size r m j V (bP G [jz j m]) XO:=s;have q:g6 A w0 raw (bP G [jz j m]).done:=q;show ∃ a b c d,_/\_;refine ⟨_,_,_,_,rfl,⟨_,_,s.eD.aj⟩,?_⟩;unfold h_;refine ev (λX=>?_) (λQ=>?_)
 ·have X:(bP G [jz j m]).ok=false:=X;rw [if_pos X];exact ⟨by rw [X],s.of f P⟩
 have Q:(bP G [jz j m]).ok=true:=Q;rw [if_neg (by rw [Q];simp)];obtain ⟨XU,XT,XH⟩:=oE Q;have H:=s.of f P;have B:=H.eD;rw [XU] at B;have XB:raw.length=1:=XE Q;obtain ⟨d,rfl⟩:∃ d,raw=[d]:=tm.1 XB;obtain ⟨x,XM⟩:∃ x,(bP G [jz j m]).done=[x]:=tm.1 (by rw [<-q.1];rfl);rw [XM] at q;rw [XM];have Xx:=q.2 0 d x rfl rfl;refine eI (cells:=bT.cells) bT.len (by decide) (XD.new B.new) (i:=0) (x:=d) (l:=[d]) rfl rfl rfl λb o Xv _=>bT.aT d ⟨Xv,?_⟩
 refine aD (rb (Xx.aA (ao.b9 B.new) λ_ _ e=>e)) ?_;rintro v XP ⟨rfl,O⟩;have n:=B.bB O;obtain ⟨XQ,Z,S,K⟩:=H.fY;rw [XT] at K;rw [XH] at S;have w:∀ {bw:ak} {R:cr},ao (λk=>k=aI) XP bw->dg w0 bw aI tb r m j V R.out->R.a7=(bP G [jz j m]).a7->R.ask=none->R.dD=false->eF A w0 u aI tb u.heap.size r m j V R bw:=by
  intro bw R XA t D J XS;have C:ao (λk=>k=aI) XO bw:=(ao.b9 O).trans XA λ_ _ e=>e
  refine ⟨H.aA.trans C λk _ e=>.inr e,t,XQ,?_,by rw [S,XS],?_⟩
  ·rw [D];exact Z.aA C λe=>z.ne e.symm
  ·rw [J];exact K
 have XR:m6 [x]=eb x:=rfl;rw [XR];have b8:¬ (eb x≠j.prev/\eb x≠gG j.inc j.aW)->lq A w0 u aI tb r m j V (if eb x≠j.prev/\eb x≠gG j.inc j.aW then ⟨false,[],(3,eb x),(bP G [jz j m]).a7,none,false⟩ else ⟨true,[],(0,0),(bP G [jz j m]).a7,none,false⟩) (.bool true) XP:=by intro h;rw [if_neg h];exact ⟨rfl,w (ao.refl _ _) n rfl rfl rfl⟩
 refine ⟨_,rfl,r.hK,n.aj.cell (i:=7) rfl,du (λD=>⟨_,n.aj.cell (i:=12) rfl,du (λJ=>?_) (λJ=>b8 λe=>e.2 J)⟩) (λD=>b8 λe=>e.1 (by rw [<-XC];exact D))⟩;have D:eb x≠j.prev:=by rw [<-XC];exact D
 rw [if_pos ⟨D,J⟩];exact EG n (3,eb x) λw' Xz t=>⟨rfl,w Xz t rfl rfl rfl⟩
end
end
section
abbrev js:TypeId:=309
def nX (l:List de):List ax:=l.map de.cells
def cS (j:ca):List de:=
 ⟨j.dead,j.dV,true⟩::(if mT j.prev=true/\kP j.prev≠j.dead then [⟨kP j.prev,pu j.prev+1,false⟩] else [])
theorem Cc (h:zN j):∀ f ∈ cS j,0<=f.aW/\f.aW<6/\0<=f.least/\f.least<=60:=by
 intro f a;have c:=h.dead;have d:=h.dV;unfold cS at a;rcases eU.1 a with rfl | a
 ·exact ⟨c.1,c.2,by show 0<=j.dV;omega,d.2⟩
 split at a
 ·rename_i b;have b:=of_decide_eq_true (show mT j.prev=true from b.1);obtain ⟨i,k⟩:=u9 b;obtain ⟨e,g,_⟩:=Bx b;simp at a;subst a;refine ⟨?_,?_,?_,?_⟩
  ·show 0<=kP j.prev;omega
  ·show kP j.prev<6;omega
  ·show 0<=pu j.prev+1;omega
  ·show pu j.prev+1<=60;omega
 ·cases a
section
variable {A:a6} {w0 u:ak} {aI tb:Nat} {r:dE} {m:a0} {j:ca} {V:gl} {T:gn} {G:List (List aM)}
theorem MN (q:dg w0 u aI tb r m j V o):bb 219 [ptr aI] u λv bw=>∃ a cap,v=.slice a (cS j).length cap/\ai u bw/\bk bw a (nX (cS j)).flatten/\∀ k,aL a k->u.heap.size<=k:=by
 refine bd Tryz.func219 ?_;rw [ptr,S_];rintro w1 B;have b:ai u w1:=by rw [B];exact cK _
 clear B;have f:=q.bB b;have aq:=q.bQ.dead;have M:=q.bQ.dV;have N:=q.bQ.prev;have W:=q.b8.dV;refine ⟨λy=>ai w1 y,ao.refl _ _,r.eV,λy O=>(ai.aj O f.aj).cell (i:=5) rfl,r.f0,λy O=>(ai.aj O f.aj).cell (i:=6) rfl,?_⟩;dsimp only;rw [aq,M,kt (x:=j.dV) (by omega) (by omega)];rintro b1 P J C;obtain ⟨d,c⟩:=bl J C;have d:av P b1 (de.cells ⟨j.dead,j.dV,true⟩) js:=d;clear C;have w:=f.bB c;refine ⟨c,r.hK,w.aj.cell (i:=7) rfl,?_⟩;rw [N];refine aD (H9 P q.b8.prev) ?_;rintro v Q ⟨rfl,rfl⟩;have aJ:∀ k,aL (some ⟨b1,0,none⟩) k->u.heap.size<=k:=λk G=>by obtain ⟨Z,l⟩:=G;simp at l;have:=b.size;omega
 have one:∀ F,cS j=F->F=[⟨j.dead,j.dV,true⟩]->∃ a cap,Value.slice (some ⟨b1,0,none⟩) 1 1=.slice a (cS j).length cap/\ai u Q/\bk Q a (nX (cS j)).flatten/\∀ k,aL a k->u.heap.size<=k:=by intro F H I;rw [H,I];exact ⟨_,_,rfl,b.new c,fu d rfl,aJ⟩
 refine ⟨_,_,_,rfl,f' (λE=>⟨r.eV,w.aj.cell (i:=5) rfl,du (λh=>?_) (λhe=>?_)⟩) (λE=>?_)⟩
 ·have h:kP j.prev≠j.dead:=by rw [<-aq];exact h
  have U:cS j=[⟨j.dead,j.dV,true⟩]++[⟨kP j.prev,pu j.prev+1,false⟩]:=by unfold cS;rw [if_pos ⟨E,h⟩];rfl
  have t:=of_decide_eq_true (show mT j.prev=true from E);obtain ⟨Xx,Xy⟩:=u9 t;obtain ⟨Xv,Xw,_⟩:=Bx t;rw [bH (x:=pu j.prev+1) (by omega) (by omega),kt (x:=pu j.prev+1) (by omega) (by omega)];rintro aB R K D;obtain ⟨p,g⟩:=bl K D;have p:av R aB (de.cells ⟨kP j.prev,pu j.prev+1,false⟩) js:=p;clear D;obtain ⟨inf,X,au,A,L⟩:=fV (T:=js) (z:=de.val ⟨0,0,false⟩) (n:=3) (m:=24) (by kernel_rfl);have Y:a1 R js 3 (some ⟨b1,0,none⟩) 1 1 ([(⟨j.dead,j.dV,true⟩:de)].map de.cells).flatten:=⟨rfl,.inr ⟨b1,_,rfl,ai.aj g d,cY 1,by decide,rfl,rfl⟩⟩;refine rh (cells:=de.cells) (sz:=3) de.len de.single Tryz.underlying306 X au (by rw [A];rfl) A (by decide) (by rw [L];decide) Y (l2:=[⟨kP j.prev,pu j.prev+1,false⟩]) (m:=1) (fu p rfl) rfl (by decide) λap s Xz H I S=>?_
  rw [U];refine ⟨ap,s,rfl,?_,H.rd,λk G=>by
   rcases S k G with e | e
   ·exact aJ k e
   ·have:=((b.new c).new g).size;omega⟩
  refine ((b.new c).new g).trans I λk G e=>?_
  obtain ⟨Z,l⟩:=e;simp at l;have:=b.size;omega
 ·exact one _ rfl (by unfold cS;rw [if_neg (λe=>e.2 (by rw [<-aq];exact he))])
 ·exact one _ rfl (by unfold cS;rw [if_neg (λe=>by rw [E] at e;simp at e)])
def l_ (j:ca) (bg:a0) (f:de):aQ:=mU j bg (24+f.aW) 1
def hC (j:ca):List aQ:=(j.v.mem.map λbg=>(cS j).map (l_ j bg)).flatten
theorem KS (E:dg w0 u aI tb r m j V o) (XU:bk u jg (nX (cS j)).flatten) (B:ax)
  (XB:∀ bw a2 n pc B,ai u bw->bK u bw a2 n pc (hC j)->Go.bs.W prog (sub (bn f179) [1,1,1,1]) (Aj ⟨aI,0,none⟩ jg (cS j).length k9 a2 n pc B) (dC prog f179 R) bw) :
  cG prog (.loop (sub (bn f179) [1,1,1,0,1,0,0])) (uq ⟨aI,0,none⟩ jg (cS j).length k9 none 0 0 r.View.fh r.View.eW r.View.fQ r.View.eW 0 B)
   (aP 0 (aZ (λenv w=>Go.bs.W prog (sub (bn f179) [1,1,1,1]) env (dC prog f179 R) w) (dC prog f179 R))) u:=by
 obtain ⟨X5,t⟩:=E.bQ.view;have hlen:=t.len;have XX:=E.b8.mem;have XV:(cS j).length<=2:=by unfold cS;split<;>simp
 have Xz:=Cc E.b8;have XK:=E.aj.lt;refine c8 mix (λq env z=>∃ (i:Nat) (a2:an) (n pc:Nat) (B:ax),q=j.v.mem.length - i/\i<=j.v.mem.length/\env=uq ⟨aI,0,none⟩ jg (cS j).length k9 a2 n pc r.View.fh r.View.eW r.View.fQ r.View.eW i B/\ai u z/\n<=2 * i/\
   bK u z a2 n pc ((j.v.mem.take i).map λbg=>(cS j).map (l_ j bg)).flatten) j.v.mem.length
  ⟨0,none,0,0,_,by omega,by omega,rfl,ao.refl _ _,by omega,bK.nil _ _⟩ ?_
 rintro q env z ⟨i,a2,n,pc,B,rfl,X8,rfl,G,X1,H⟩;refine hj (fn:=f179) (R:=R) (λ_ _=>rfl) ?_;rw [R_,hlen];have L:=E.new.new G;refine bc (λXZ=>?_) (λXW=>?_)
 ·obtain ⟨bg,hm⟩:∃ bg,j.v.mem[i]?=some bg:=⟨_,bE (by omega)⟩;have X0:=E.b8.ee bg (b5 hm);refine eI (cells:=a0.cells) a0.len (by omega) (t.rd.new L) hm rfl rfl λb X9 Xx _=>a0.aT bg ⟨Xx,?_⟩
  refine ec (vs:=bg.cells) rfl (a0.single _) λXv Yb XS XG M=>?_
  refine c8 mix (λq env y=>∃ (k:Nat) (a2:an) (n pc:Nat) (B:ax),q=(cS j).length - k/\k<=(cS j).length/\env=w3 ⟨aI,0,none⟩ jg (cS j).length k9 a2 n pc ⟨Xv,0,none⟩ r.View.fh j.v.mem.length r.View.fQ j.v.mem.length i jg (cS j).length k9 (cS j).length k B/\ai u y/\av y Xv bg.cells eG/\n<=2 * i+k/\
    bK u y a2 n pc (((j.v.mem.take i).map λbg=>(cS j).map (l_ j bg)).flatten++((cS j).take k).map (l_ j bg))) (cS j).length
   ⟨0,a2,n,pc,_,by omega,by omega,rfl,G.new M,XG,by omega,by simpa using H.new M⟩ ?_
  rintro q env y ⟨k,a2,n,pc,B,rfl,XY,rfl,h,Y,X2,A⟩;refine hj (fn:=f179) (R:=R) (λ_ _=>rfl) ?_;rw [R'];refine bc (λXJ=>?_) (λXI=>?_)
  ·obtain ⟨f,l⟩:∃ f,(cS j)[k]?=some f:=⟨_,bE (by omega)⟩;have C:=Xz f (b5 l);refine eI (cells:=de.cells) de.len (by omega) (XU.new h) l rfl rfl λX6 X_ J _=>de.aT f ⟨J,?_⟩
   refine ec (vs:=f.cells) rfl (de.single _) λXN X3 XT XH XD=>?_
   rintro XL X;have N:ai X3 XL:=by rw [X];exact cK _
   clear X;have g:=XD.new N;have c:=ai.aj g Y;have d:=ai.aj N XH;refine ⟨λx=>av x Xv bg.cells eG/\av x XN f.cells js,⟨c,d⟩,a0.aT bg ⟨λx XF=>bO XF.1 rfl,f.aW,λx XF=>XF.2.cell (i:=0) rfl,?_⟩⟩;refine aD (zq XL ⟨C.1,C.2.1⟩) ?_;rintro v X' ⟨rfl,s⟩;refine ⟨_,rfl,⟨ai.aj s c,ai.aj s d⟩,?_⟩;refine aD (va (E.bB ((h.new g).new s)) (m:=bg) (by unfold d9;omega) (24+f.aW) 1) ?_;rintro v XM ⟨bj,rfl,XE,F⟩;have a:=s.new F;refine aG.aT bj ⟨rfl,⟨ai.aj a c,ai.aj a d⟩,?_⟩;rintro X7 X4 Xw U;have P:ai XM X4:=by rw [U];exact hy _ _
   have p:=(g.new s);refine ⟨⟨ai.aj (a.new P) c,ai.aj (a.new P) d⟩,bK.l3 (A.new p) (h.new p) F XE (by omega) Xw U λap I Ya XP K O=>?_⟩;obtain ⟨cp,S,_⟩:=A.ex;have off:∀ {b:Nat} {cs:ax} {T:TypeId},T≠cF->av XM b cs T->¬ aL a2 b:=λXQ XR XB=>by obtain ⟨XO,Xy⟩:=fT (a1.new ((p.new F)) S) XB;exact Xy.ne XR (λe=>XQ e.symm) rfl
   have D:=K.aj (ai.aj a c) (off (by decide) (ai.aj a c));have Z:=K.aj (ai.aj a d) (off (by decide) (ai.aj a d));refine ⟨⟨D,Z⟩,eT ?_⟩;rw [bH (x:=(k:Int)+1) (by omega) (by omega)];refine ⟨(cS j).length - (k+1),by omega,k+1,ap,n+1,I,_,rfl,by omega,rfl,O,D,by omega,?_⟩;have e:((j.v.mem.take i).map λbg=>(cS j).map (l_ j bg)).flatten++((cS j).take k).map (l_ j bg)++[l_ j bg f]=((j.v.mem.take i).map λbg=>(cS j).map (l_ j bg)).flatten++((cS j).take (k+1)).map (l_ j bg):=by rw [ff,l];simp
   rw [<-e];exact XP
  ·have XC:k=(cS j).length:=by omega
   subst XC;refine p7 (pJ (pI (eT ?_)));rw [Sv,bH (x:=(i:Int)+1) (by omega) (by omega)];refine eT (Q:=aP 0 (aZ (λenv w=>Go.bs.W prog (sub (bn f179) [1,1,1,1]) env (dC prog f179 R) w) (dC prog f179 R))) ⟨j.v.mem.length - (i+1),by omega,i+1,a2,n,pc,_,rfl,by omega,by rw [<-hlen];rfl,h,by omega,?_⟩;rw [h0] at A;have e:((j.v.mem.take i).map λbg=>(cS j).map (l_ j bg)).flatten++(cS j).map (l_ j bg)=((j.v.mem.take (i+1)).map λbg=>(cS j).map (l_ j bg)).flatten:=by rw [ff,hm];simp
   rw [<-e];exact A
 ·have XA:i=j.v.mem.length:=by omega
  subst XA;refine p7 (pJ (eT ?_));rw [h0] at H;exact XB z a2 n pc _ G H
end
end
section
def pG:de:=⟨0,0,false⟩
def dv (ds:List aM) (i:Nat):Int:=eb (ds.getD i ⟨0,[]⟩)
def gu (j:ca) (i:Nat):de:=(cS j).getD (i % (cS j).length) pG
def nK (j:ca) (i:Nat):a0:=j.v.mem.getD (i / (cS j).length) jW
def jH (j:ca) (ds:List aM) (i:Nat):Bool:=(gu j i).exact && decide (dv ds i>(gu j i).least)
def tw (j:ca) (ds:List aM) (i:Nat):aQ:=r3 j (nK j i) (24+(gu j i).aW) (dv ds i) (gu j i).least
def tc (j:ca) (ds:List aM) (i:Nat):List (aQ×de):=if dv ds i<(gu j i).least then [(tw j ds i,gu j i)] else []
def h' (j:ca) (ds:List aM) (n:Nat):List (aQ×de):=((List.range n).map (tc j ds)).flatten
theorem A8 (j:ca) (ds:List aM) (n:Nat):h' j ds (n+1)=h' j ds n++tc j ds n:=by unfold h';rw [ku];simp
theorem Be (j:ca):0<(cS j).length/\(cS j).length<=2:=by unfold cS;split<;>simp
noncomputable abbrev ha:Func:=f179
structure n_ (w0 u z:ak) (aI tb:Nat) (r:dE) (m:a0) (j:ca) (V:gl) (a2:an) (n pc:Nat) (pb:an) (gZ:Nat) (L:List (aQ×de)):Prop where
 eD:dg w0 z aI tb r m j V (0,0)
 new:ai u z
 kn:bK u z a2 n pc (L.map Prod.fst)
 su:a1 z js 3 pb n gZ (nX (L.map Prod.snd)).flatten
 gv:∀ k,aL pb k->u.heap.size<=k
 le:w0.heap.size<=u.heap.size
theorem n_.jX {b:ak} (h:n_ w0 u z aI tb r m j V a2 n pc pb gZ L) (a:ai z b):n_ w0 u b aI tb r m j V a2 n pc pb gZ L:=
 ⟨h.eD.bB a,h.new.new a,h.kn.new a,a1.new a h.su,h.gv,h.le⟩
theorem KT:∀ x ∈ (h' j ds n).map Prod.fst,x.words=[]:=by
 intro x c;obtain ⟨p,a,rfl⟩:=cZ.1 c;unfold h' at a;obtain ⟨l,b,a⟩:=o2.1 a;obtain ⟨i,_,rfl⟩:=cZ.1 b;unfold tc at a;split at a
 ·simp at a;rw [a];rfl
 ·cases a
theorem KU (h:n_ w0 u z aI tb r m j V a2 n pc pb gZ (h' j ds i)) (Yz:i<j.v.mem.length * (cS j).length) (YJ:n<=i)
  {aB:Nat} (XB:av z aB (gu j i).cells js) (Yl:u.heap.size<=aB/\¬ aL pb aB) (X9:cj (dv ds i)) {flag:Bool} (f:flag=jH j ds i) {dl:Nat} {Yi:ax} {Q:Exit->ax->aF} (dH:∀ env w,Q .ret env w=dC prog ha R .ret env w)
  (XC:jH j ds i=true->∀ Xx,ao (λk=>k=aI) z Xx->dg w0 Xx aI tb r m j V (11,0)->R (.bool false) Xx)
  (XZ:jH j ds i=false->∀ Xx XV n' XX XW O Yi,n_ w0 u Xx aI tb r m j V XV n' XX XW O (h' j ds (i+1))->n'<=i+1->Q .normal (w5 ⟨aI,0,none⟩ jg (cS j).length k9 XV n' XX XW n' O dB dl dc dl i Yi) Xx) :
  Go.bs.W prog (sub (bn ha) [1,1,1,1,1,1,1,1,0,1,0,0,1,1,0,0,1,1,0,1]) (qD ⟨aI,0,none⟩ jg (cS j).length k9 a2 n pc pb n gZ i ⟨aB,0,none⟩ (dv ds i) dB dl dc dl i flag Yi) Q z:=by
 refine hj (fn:=ha) (R:=R) dH ?_;rw [Sw];have p:=h.eD;obtain ⟨XD,X_⟩:=Be j;have Ya:=p.b8.mem;have XE:(gu j i) ∈ cS j:=by unfold gu;have B:i % (cS j).length<(cS j).length:=Nat.mod_lt _ XD;rw [dq,bE B];exact kY B
 have A:=Cc p.b8 _ XE;cases flag with
 |true=>refine gB rfl ?_;refine aD (yB p 11) ?_;rintro v YE ⟨rfl,Yc,XO⟩;exact ⟨_,rfl,XC f.symm YE Yc XO⟩
 |false=>
  refine di rfl ⟨_,XB.cell (i:=1) rfl,bc (λB=>?_) (λX'=>?_)⟩
  ·rintro Yo XU;have XG:ai z Yo:=by rw [XU];exact cK _
   clear XU;have XY:=h.jX XG;obtain ⟨YH,D⟩:=p.bQ.view;have hlen:=D.len;have XF:i / (cS j).length<j.v.mem.length:=(Nat.div_lt_iff_lt_mul XD).2 Yz;have hm:j.v.mem[i / (cS j).length]?=some (nK j i):=by unfold nK;rw [dq,bE XF];rfl
   have YA:=p.b8.ee _ (b5 hm);have hdiv:Int.tdiv (i:Int) ((cS j).length:Int)=((i / (cS j).length:Nat):Int):=rfl;generalize i / (cS j).length=q at XF hm hdiv;have Ym:i<=10:=by have:j.v.mem.length * (cS j).length<=5 * 2:=p_ Ya.2 X_;omega
   refine ⟨λy=>∃ V o,dg w0 y aI tb r m j V o,⟨_,_,XY.eD⟩,r.View.fh,r.View.eW,r.View.fQ,λy X=>by obtain ⟨Yt,YD,X⟩:=X;exact X.aj.cell (i:=4) rfl,rfl,by omega,?_⟩;rw [hdiv];refine jj (cells:=a0.cells) a0.len (by omega) D.rd hm (bH (by omega) (by omega)) hlen λb o Yy=>a0.aT (nK j i) ⟨λy X=>by obtain ⟨Yt,YD,X⟩:=X;exact k8 (i:=0) λq v al=>by simpa using Yy y X.new q v al,?_⟩
   rintro b1 YF X5 XR;obtain ⟨Y,XI⟩:=bl X5 XR;have Y:av YF b1 (a0.cells ⟨0,0,false⟩) eG:=Y;clear XR;refine ⟨⟨_,_,(XY.jX XI).eD⟩,dQ (vs:=(nK j i).cells) Y rfl (a0.single _) λYp Yg Yd=>?_⟩;have XH:ai Yo Yp:=XI.trans Yd λk B e=>by omega
   rintro Yq XS;have XJ:ai Yp Yq:=by rw [XS];exact cK _
   clear XS;have L:=XH.new XJ;have H:=ai.aj XJ Yg;have g:=ai.aj (XG.new L) XB;refine ⟨λx=>av x b1 (nK j i).cells eG/\av x aB (gu j i).cells js,⟨H,g⟩,a0.aT (nK j i) ⟨λx s=>bO s.1 rfl,(gu j i).aW,λx s=>s.2.cell (i:=0) rfl,(gu j i).least,λx s=>s.2.cell (i:=1) rfl,?_⟩⟩;refine aD (zq Yq ⟨A.1,A.2.1⟩) ?_;rintro v YK ⟨rfl,G⟩;refine ⟨_,rfl,⟨ai.aj G H,ai.aj G g⟩,?_⟩;have M:=L.new G;refine aD (vM (XY.jX M).eD (m:=nK j i) (by unfold d9;omega) (24+(gu j i).aW) X9 ⟨A.2.2.1,by omega⟩) ?_;rintro v Yr ⟨bj,rfl,Ye,P⟩;have l:=G.new P;refine aG.aT bj ⟨rfl,⟨ai.aj l H,ai.aj l g⟩,?_⟩;rintro YI YG X6 XT;have XK:ai Yr YG:=by rw [XT];exact hy _ _
   have X2:=XY.jX M;have Xw:=X2.jX P;have Z:=ai.aj l H;have t:=ai.aj l g;refine ⟨⟨ai.aj XK Z,ai.aj XK t⟩,bK.l3 X2.kn X2.new P Ye (by omega) X6 XT λap I Ys Yx F S=>?_⟩;obtain ⟨cp,XL,_⟩:=Xw.kn.ex;have off:∀ {b:Nat} {cs:ax} {T:TypeId},T≠cF->av Yr b cs T->¬ aL a2 b:=λX3 X4 XZ=>by obtain ⟨Xz,d⟩:=fT XL XZ;exact d.ne X4 (λe=>X3 e.symm) rfl
   have Yh:=F.aj Z (off (by decide) Z);have J:=F.aj t (off (by decide) t);have XP:dg w0 Ys aI tb r m j V (0,0):=Xw.eD.aA F λk a=>by have:=Xw.kn.gv k a;have:=p.new.size;have hu:=h.new.size;have:=h.le;exact ⟨by omega,λe=>off (by decide) Xw.eD.aj (e▸a)⟩
   have K:a1 Ys js 3 pb n gZ (nX ((h' j ds i).map Prod.snd)).flatten:=Xw.su.aA F λk a e=>by obtain ⟨cs,d⟩:=fT Xw.su a;exact off (by decide) d e
   refine ⟨⟨Yh,J⟩,de.aT (gu j i) ⟨bO J rfl,?_⟩⟩;rintro Yu Xv X7 N;obtain ⟨E,c⟩:=bl X7 N;have E:av Xv Yu (gu j i).cells js:=E;clear N;obtain ⟨inf,Yb,Yf,XQ,X8⟩:=fV (T:=js) (z:=de.val ⟨0,0,false⟩) (n:=3) (m:=24) (by kernel_rfl);refine rh (cells:=de.cells) (sz:=3) de.len de.single Tryz.underlying306 Yb Yf (by rw [XQ];rfl) XQ (by decide) (by rw [X8];decide) (a1.new c K) (l2:=[gu j i]) (m:=1) (fu E rfl) rfl (by omega) λX0 Xy Yk Yv X1 Yw=>?_
   have XN:h' j ds (i+1)=h' j ds i++[(tw j ds i,gu j i)]:=by rw [A8,show tc j ds i=[(tw j ds i,gu j i)] from if_pos B]
   have XM:∀ {b:Nat} {cs:ax} {T:TypeId},T≠js->av Xv b cs T->¬ aL pb b:=λX3 X4 a=>by obtain ⟨Xz,d⟩:=fT (a1.new c K) a;exact d.ne X4 (λe=>X3 e.symm) rfl
   have C:=XP.bB c;have hle:=h.le;have YB:=h.new.size;have YC:=S.size;refine XZ f.symm Yk ap (n+1) I X0 Xy _ ⟨C.aA X1 λk a=>⟨by have:=h.gv k a;omega,λe=>XM (by decide) C.aj (e▸a)⟩,(S.new c).trans X1 λk Yn e=>by have:=h.gv k e;omega,?_,?_,λk a=>?_,hle⟩ (by omega)
   ·rw [XN,jn];have XA:bK u Xv ap (n+1) I ((h' j ds i).map Prod.fst++[tw j ds i]):=Yx.new c;obtain ⟨Yj,U,_⟩:=XA.ex;refine XA.Az (λx s=>?_) X1 λk a e=>?_
    ·rcases iq.1 s with s | s
     ·exact KT x s
     ·simp at s;rw [s];rfl
    ·obtain ⟨Xz,d⟩:=fT U a;exact XM (by decide) d e
   ·rw [XN,jn];exact Yv
   ·rcases Yw k a with e | e
    ·exact h.gv k e
    ·have:=S.size;have:=c.size;omega
  ·refine XZ f.symm z a2 n pc pb gZ _ ?_ (by omega);rw [A8,show tc j ds i=[] from if_neg X',jJ];exact h
end
section
theorem GE (X5:ds.length=j.v.mem.length * (cS j).length)
  (X6:bk u jg (nX (cS j)).flatten) (XP:bk w0 dB (fW raw).flatten) (S:g6 A w0 raw ds) (Yb:i<=ds.length) (B:n_ w0 u z aI tb r m j V a2 n pc pb gZ (h' j ds i)) (XO:n<=i) (I:ax)
  (XB:∀ env w,iI .ret env w=dC prog ha R .ret env w)
  (O:i<ds.length->jH j ds i=true->∀ Xz F,ai z Xz->ao (λk=>k=aI) Xz F->dg w0 F aI tb r m j V (11,0)->R (.bool false) F)
  (M:i<ds.length->jH j ds i=false->∀ F a2 n pc pb gZ I,n_ w0 u F aI tb r m j V a2 n pc pb gZ (h' j ds (i+1))->n<=i+1->iI .normal (qC ⟨aI,0,none⟩ jg (cS j).length k9 a2 n pc pb n gZ dB ds.length dc ds.length (i+1:Nat) I) F)
  (U:i=ds.length->∀ I,iI (.exit 4) (w4 ⟨aI,0,none⟩ a2 n pc pb n gZ I) z) :
  Go.bs.W prog (sub (bn ha) [1,1,1,1,1,1,1,1,0,1,0,0]) (qC ⟨aI,0,none⟩ jg (cS j).length k9 a2 n pc pb n gZ dB ds.length dc ds.length i I) iI z:=by
 have XQ:=B.eD;obtain ⟨XG,XH⟩:=Be j;have XJ:=XQ.b8.mem;have XR:raw.length=ds.length:=S.1;have X2:ds.length<=10:=by have:j.v.mem.length * (cS j).length<=5 * 2:=p_ XJ.2 XH;omega
 refine hj (fn:=ha) (R:=R) XB ?_;rw [Sd];have G:=B.eD.new;refine bc (λX=>?_) (λX7=>U (by omega) _);have C:i<ds.length:=by omega
 obtain ⟨d,aq⟩:∃ d,raw[i]?=some d:=⟨_,bE (by omega)⟩;obtain ⟨x,X3⟩:∃ x,ds[i]?=some x:=⟨_,bE C⟩;have P:=S.2 i d x aq X3;have T:dv ds i=eb x:=by unfold dv;rw [dq,X3];rfl
 refine eI (cells:=bT.cells) bT.len (by omega) (XP.new G) aq rfl XR.symm λb o XF _=>bT.aT d ⟨XF,?_⟩
 refine ec (vs:=d.cells) rfl (bT.single _) λb1 Xz X4 XT XN=>?_
 rintro N Xw;have Z:ai Xz N:=by rw [Xw];exact cK _
 clear Xw;have f:=XN.new Z;have Y:i % (cS j).length<(cS j).length:=Nat.mod_lt _ XG;have XI:(cS j)[i % (cS j).length]?=some (gu j i):=by unfold gu;rw [dq,bE Y];rfl
 have XS:Int.tmod (i:Int) ((cS j).length:Int)=((i % (cS j).length:Nat):Int):=rfl;have XU:=ai.aj Z XT;refine ⟨λy=>ai N y,ao.refl _ _,rfl,by omega,?_⟩;rw [XS];refine jj (cells:=de.cells) de.len (by omega) (X6.new (B.new.new f)) XI rfl rfl λaB Yd XE=>de.aT (gu j i) ⟨λy H=>k8 (i:=0) λq v al=>by simpa using XE y H q v al,bT.aT d ⟨λy H=>bO (ai.aj H XU) rfl,?_⟩⟩
 have E:∀ {y:ak},ai N y->bb 196 [d.val] y λv w'=>v=.int .u64 (dv ds i)/\ai y w':=by intro y H;rw [T];exact rb (P.aA (ao.b9 (G.new (f.new H))) λ_ _ e=>e)
 have hu:cj (dv ds i):=by
  rw [T];unfold eb;cases hw:x.words with
  |nil=>exact hq
  |cons a l=>exact P.wf a (by rw [hw];simp)
 have one:∀ {y:ak} {Xy:Nat},ai N y->av y Xy (gu j i).cells js->N.heap.size<=Xy->∀ (flag:Bool),flag=jH j ds i->∀ (I:ax),Go.bs.W prog (sub (bn ha) [1,1,1,1,1,1,1,1,0,1,0,0,1,1,0,0,1,1,0,1]) (qD ⟨aI,0,none⟩ jg (cS j).length k9 a2 n pc pb n gZ i ⟨Xy,0,none⟩ (dv ds i) dB ds.length dc ds.length i flag I) (aP 6 (aP 5 (aZ (λenv w=>Go.bs.W prog (sub (bn ha) [1,1,1,1,1,1,1,1,0,1,0,0,1,1,1]) env (bI prog ha R iI) w) (bI prog ha R iI)))) y:=by
  intro y Xy H XD X1 flag K I;have Yc:=f.size;have X9:=B.new.size;refine KU (B.jX (f.new H)) (by omega) XO XD ⟨by omega,λXL=>?_⟩ hu K (λ_ _=>rfl) (λXC F XK Xv=>O C XC y F (f.new H) XK Xv) (λXC F XV n' XX XW Xx X' Q XM=>?_)
  ·have:=B.su.lt XL;omega
  ·refine pI (pI (eT ?_));rw [Sy,bH (x:=(i:Int)+1) (by omega) (by omega)];exact M C XC F XV n' XX XW Xx _ Q XM
 have mu:∀ {t:Bool},(gu j i).exact=true->t=decide (dv ds i>(gu j i).least)->t=jH j ds i:=λhe X_=>by unfold jH;rw [he,X_];rfl
 have X0:(gu j i).exact=false->false=jH j ds i:=λhe=>by unfold jH;rw [he];rfl
 refine ⟨?_,?_⟩
 ·refine aD (E (ao.refl _ _)) ?_;rintro v Ya ⟨rfl,g⟩;refine ⟨_,rfl,g,?_⟩;rintro XA XY J D;obtain ⟨s,h⟩:=bl J D;have s:av XY XA pG.cells js:=s;clear D;have X8:=g.size;refine ⟨g.new h,dQ (vs:=(gu j i).cells) s rfl (de.single _) λXZ c L=>?_⟩;have p:ai N XZ:=(g.new h).trans L λk X e=>by omega
  exact ⟨p,_,c.cell (i:=2) rfl,f' (λhe=>⟨_,c.cell (i:=1) rfl,one p c (by omega) _ (mu he rfl) _⟩) (λhe=>one p c (by omega) _ (X0 he) _)⟩
 ·rintro XA XY J D;obtain ⟨s,h⟩:=bl J D;have s:av XY XA pG.cells js:=s;clear D;refine ⟨h,?_⟩;refine aD (E h) ?_;rintro v Ya ⟨rfl,g⟩;refine ⟨_,rfl,h.new g,dQ (vs:=(gu j i).cells) (ai.aj g s) rfl (de.single _) λXZ c L=>?_⟩;have p:ai N XZ:=(h.new g).trans L λk X e=>by omega
  exact ⟨p,_,c.cell (i:=2) rfl,f' (λhe=>⟨_,c.cell (i:=1) rfl,one p c (by omega) _ (mu he rfl) _⟩) (λhe=>one p c (by omega) _ (X0 he) _)⟩
theorem Jj (o:dg w0 u aI tb r m j V (0,0)) (B:ds.length=j.v.mem.length * (cS j).length)
  (M:bk u jg (nX (cS j)).flatten) (I:bk w0 dB (fW raw).flatten) (C:g6 A w0 raw ds) (e:ax) {QX:Exit->ax->aF} (x:∀ env w,QX .ret env w=dC prog ha R .ret env w)
  (f:(List.range ds.length).any (jH j ds)=true->∀ z b,ai u z->ao (λk=>k=aI) z b->dg w0 b aI tb r m j V (11,0)->R (.bool false) b)
  (c:(List.range ds.length).any (jH j ds)=false->∀ b a2 n pc pb gZ e,n_ w0 u b aI tb r m j V a2 n pc pb gZ (h' j ds ds.length)->n<=ds.length->
   Go.bs.W prog (sub (bn ha) [1,1,1,1,1,1,1,1,1]) (w4 ⟨aI,0,none⟩ a2 n pc pb n gZ e) QX b) :
  cG prog (.loop (sub (bn ha) [1,1,1,1,1,1,1,1,0,1,0,0])) (qC ⟨aI,0,none⟩ jg (cS j).length k9 none 0 0 none 0 0 dB ds.length dc ds.length 0 e)
   (aP 4 (aZ (λenv w=>Go.bs.W prog (sub (bn ha) [1,1,1,1,1,1,1,1,1]) env QX w) QX)) u:=by
 refine c8 mix (λq env z=>∃ (i:Nat) (a2:an) (n pc:Nat) (pb:an) (gZ:Nat) (e:ax),q=ds.length - i/\i<=ds.length/\env=qC ⟨aI,0,none⟩ jg (cS j).length k9 a2 n pc pb n gZ dB ds.length dc ds.length i e/\n_ w0 u z aI tb r m j V a2 n pc pb gZ (h' j ds i)/\n<=i/\∀ k,k<i->jH j ds k=false) ds.length
  ⟨0,none,0,0,none,0,_,by omega,by omega,rfl,⟨o,ao.refl _ _,bK.nil _ _,a1.nil _ _ _,λk c=>absurd c nO,o.new.size⟩,by omega,λk c=>by omega⟩ ?_
 rintro q env z ⟨i,a2,n,pc,pb,gZ,e,rfl,N,rfl,d,l,a⟩;refine GE B M I C N d l e (R:=R) x (λh y O b H E p=>f ?_ O b (d.new.new H) E p) (λh y b J n' L K t s g G=>?_) (λD s=>?_)
 ·exact qa.2 ⟨i,fs.2 h,y⟩
 ·exact eT ⟨ds.length - (i+1),by omega,i+1,J,n',L,K,t,s,rfl,by omega,rfl,g,G,λk c=>by
   rcases p9.1 c with c | rfl
   ·exact a k c
   ·exact y⟩
 ·subst D;refine p7 (pJ (eT ?_));refine c ?_ z a2 n pc pb gZ _ d l;rw [yK];intro k F;rw [a k (fs.1 F)];simp
end
section
theorem eF.u0 {i:gl} {R a:cr} (n:eF A w0 u aI tb B r m j V R bG) (c:R.ask=none) (h:R.dD=false) (l:ao (λk=>k=aI) bG bw) (d:dg w0 bw aI tb r m j i a.out) (p:a.a7=R.a7) (q:a.ask=none) (s:a.dD=false):eF A w0 u aI tb B r m j i a bw:=by
 obtain ⟨o,f,g,b⟩:=n.fY;rw [c] at b;refine ⟨n.aA.trans l λk _ e=>.inr e,d,o,?_,by rw [g,h,s],?_⟩
 ·rw [p];exact f.aA l λe=>d.ne e.symm
 ·rw [q];exact b
theorem eF.seq {f:ak} {c:Nat} {R:cr} (p:ao (λk=>k=tb\/k=aI) u bG) (q:ai bG z) (b:eF A w0 z aI tb c r m j V R f) (t:B<=c):eF A w0 u aI tb B r m j V R f:=by
 refine ⟨(p.new q).trans b.aA λ_ _ e=>e,b.eD,?_⟩;obtain ⟨g,n,o,a⟩:=b.fY;refine ⟨g,n,o,?_⟩;cases d:R.ask with
 |none=>rw [d] at a;exact a
 |some vs=>rw [d] at a;obtain ⟨h,w1,i,s,l⟩:=a;exact ⟨h,w1,i,by omega,l⟩
def GA:aQ:=⟨0,0,0,0,0,0,[],0,0⟩
def mq (p:aQ×de) (p1:Int):Bool:=decide (p1≠p.1.old) && (decide (p1≠p.2.least) && (p.2.exact || decide (p1<p.2.least)))
def ny (L:List (aQ×de)) (ds:List aM) (i:Nat):Bool:=mq (L.getD i (GA,pG)) (dv ds i)
theorem Jk (X2:L.length=ds.length) (XU:ds.length<=100)
  (Y:dg w0 z aI tb r m j V (0,0)) (XM:bk w0 dB (fW raw).flatten) (S:g6 A w0 raw ds) (X3:i<=ds.length) (XZ:n=L.length) (XP:bK u z a2 n pc (L.map Prod.fst)) (XG:bk z pb (nX (L.map Prod.snd)).flatten) (J:ax)
  (XA:∀ env w,iI .ret env w=dC prog ha R .ret env w)
  (Q:i<ds.length->ny L ds i=true->∀ Xy K,ai z Xy->ao (λk=>k=aI) Xy K->dg w0 K aI tb r m j V (11,0)->R (.bool false) K)
  (O:i<ds.length->ny L ds i=false->∀ K J,ai z K->iI .normal (sg ⟨aI,0,none⟩ a2 n pc pb n gZ dB ds.length dc ds.length (i+1:Nat) J) K)
  (T:i=ds.length->∀ J,iI (.exit 7) (Ak J) z) :
  Go.bs.W prog (sub (bn ha) [1,1,1,1,1,1,1,1,1,1,1,0,1,0,0]) (sg ⟨aI,0,none⟩ a2 n pc pb n gZ dB ds.length dc ds.length i J) iI z:=by
 have XN:raw.length=ds.length:=S.1;refine hj (fn:=ha) (R:=R) XA ?_;rw [Se];have H:=Y.new;refine bc (λU=>?_) (λXY=>T (by omega) _);have C:i<ds.length:=by omega
 obtain ⟨d,aq⟩:∃ d,raw[i]?=some d:=⟨_,bE (by omega)⟩;obtain ⟨x,XW⟩:∃ x,ds[i]?=some x:=⟨_,bE C⟩;obtain ⟨p,XK⟩:∃ p,L[i]?=some p:=⟨_,bE (by omega)⟩;have XL:L.getD i (GA,pG)=p:=by rw [dq,XK];rfl
 have XE:=S.2 i d x aq XW;have XF:dv ds i=eb x:=by unfold dv;rw [dq,XW];rfl
 obtain ⟨cp,I,Xw⟩:=XP.ex;have XV:cp.length=L.length:=by rw [Xw.1,fZ]
 obtain ⟨v,al⟩:∃ v,cp[i]?=some v:=⟨_,bE (by omega)⟩;have XO:=Xw.2 i v p.1 al (by rw [dS,XK];rfl);have Xv:v.Old=p.1.old:=by rw [XO.eq];rfl
 refine eI (cells:=bT.cells) bT.len (by omega) (XM.new H) aq rfl XN.symm λb o XD _=>bT.aT d ⟨XD,?_⟩
 refine ec (vs:=d.cells) rfl (bT.single _) λb1 Xy XX XQ XJ=>?_
 rintro P Xx;have X:ai Xy P:=by rw [Xx];exact cK _
 clear Xx;have a:=XJ.new X;have XR:=ai.aj X XQ;refine ⟨λy=>ai P y,ao.refl _ _,bT.aT d ⟨λy c=>bO (ai.aj c XR) rfl,?_⟩⟩;have XH:(L.map Prod.snd)[i]?=some p.2:=by rw [dS,XK];rfl
 refine jj (cells:=de.cells) de.len (by omega) (XG.new a) XH rfl (by rw [fZ];exact XZ) λaB X4 XC=>de.aT p.2 ⟨λy c=>k8 (i:=0) λq v al=>by simpa using XC y c q v al,?_⟩
 have E:∀ {y:ak},ai P y->bb 196 [d.val] y λv w'=>v=.int .u64 (dv ds i)/\ai y w':=by intro y c;rw [XF];exact rb (XE.aA (ao.b9 (H.new (a.new c))) λ_ _ e=>e)
 have one:∀ {y:ak},ai P y->∀ (flag:Bool),flag=ny L ds i->∀ (J:ax),Go.bs.W prog (sub (bn ha) [1,1,1,1,1,1,1,1,1,1,1,0,1,0,0,1,1,0,0,1,1,1]) (nx ⟨aI,0,none⟩ a2 n pc pb n gZ dB ds.length dc ds.length i flag J) (aP 8 (aZ (λenv w=>Go.bs.W prog (sub (bn ha) [1,1,1,1,1,1,1,1,1,1,1,0,1,0,0,1,1,1]) env (bI prog ha R iI) w) (bI prog ha R iI))) y:=by
  intro y c flag B J;refine hj (fn:=ha) (R:=R) (λ_ _=>rfl) ?_;rw [Sz];cases flag with
  |true=>refine gB rfl ?_;refine aD (yB (Y.bB (a.new c)) 11) ?_;rintro v K ⟨rfl,XI,Z⟩;exact ⟨_,rfl,Q C B.symm y K (a.new c) XI Z⟩
  |false=>refine di rfl (pI (eT ?_));rw [Sg,bH (x:=(i:Int)+1) (by omega) (by omega)];exact O C B.symm y _ (a.new c)
 have G:ny L ds i=mq p (dv ds i):=by unfold ny;rw [XL]
 refine ⟨?_,?_⟩
 ·refine aD (E (ao.refl _ _)) ?_;rintro v X1 ⟨rfl,f⟩;refine ⟨_,rfl,f,?_⟩;rintro Xz XS M D;obtain ⟨h,g⟩:=bl M D;have h:av XS Xz pG.cells js:=h;clear D;have X0:=f.size;refine ⟨f.new g,dQ (vs:=p.2.cells) h rfl (de.single _) λXT s N=>?_⟩;have c:ai P XT:=(f.new g).trans N λk U e=>by omega
  refine eI (cells:=aG.cells) aG.len (by omega) (l:=cp) (a1.new (a.new c) I).rd al rfl (by omega) λb o _ XB=>⟨_,XB 4 _ rfl,?_⟩
  rw [Xv];refine du (λt=>⟨_,s.cell (i:=1) rfl,du (λF=>⟨_,s.cell (i:=2) rfl,f' (λhe=>one c _ ?_ _) (λhe=>⟨_,s.cell (i:=1) rfl,one c _ ?_ _⟩)⟩) (λF=>one c _ ?_ _)⟩) (λt=>one c _ ?_ _)
  ·rw [G];unfold mq;rw [decide_eq_true t,decide_eq_true F,he];rfl
  ·rw [G];unfold mq;rw [decide_eq_true t,decide_eq_true F,he];rfl
  ·rw [G];unfold mq;rw [decide_eq_true t,decide_eq_false (λe=>e F)];rfl
  ·rw [G];unfold mq;rw [decide_eq_false (λe=>e t)];rfl
 ·rintro Xz XS M D;obtain ⟨h,g⟩:=bl M D;have h:av XS Xz pG.cells js:=h;clear D;refine ⟨g,?_⟩;refine aD (E g) ?_;rintro v X1 ⟨rfl,f⟩;refine ⟨_,rfl,g.new f,dQ (vs:=p.2.cells) (ai.aj f h) rfl (de.single _) λXT s N=>?_⟩;have c:ai P XT:=(g.new f).trans N λk U e=>by omega
  refine eI (cells:=aG.cells) aG.len (by omega) (l:=cp) (a1.new (a.new c) I).rd al rfl (by omega) λb o _ XB=>⟨_,XB 4 _ rfl,?_⟩
  rw [Xv];refine du (λt=>⟨_,s.cell (i:=1) rfl,du (λF=>⟨_,s.cell (i:=2) rfl,f' (λhe=>one c _ ?_ _) (λhe=>⟨_,s.cell (i:=1) rfl,one c _ ?_ _⟩)⟩) (λF=>one c _ ?_ _)⟩) (λt=>one c _ ?_ _)
  ·rw [G];unfold mq;rw [decide_eq_true t,decide_eq_true F,he];rfl
  ·rw [G];unfold mq;rw [decide_eq_true t,decide_eq_true F,he];rfl
  ·rw [G];unfold mq;rw [decide_eq_true t,decide_eq_false (λe=>e F)];rfl
  ·rw [G];unfold mq;rw [decide_eq_false (λe=>e t)];rfl
end
end Go.Proofs.YtmkljjbioomepaaGreat
