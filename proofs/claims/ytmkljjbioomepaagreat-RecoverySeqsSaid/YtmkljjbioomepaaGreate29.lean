import Derived.Test.YtmkljjbioomepaaGreate28
import Derived.Test.YtmkljjbioomepaaGreate20
set_option linter.all false
set_option maxHeartbeats 4000000
set_option maxRecDepth 100000
namespace Go.Proofs.YtmkljjbioomepaaGreat
open Go.Proofs.Tryz Go.bn
variable {A:a2} {R:cp} {dk iL aX pb:an} {dc kB i n pc fZ aI tb:Nat} {o:Int×Int} {u w0 z:al}
section
section
attribute [local irreducible] hU ix mb
theorem xm (w:al) {i:Int} (f:0<=i/\i<6):ba 106 [.int .i64 i] w λv w'=>v=.int .i64 (24+i)/\ai w w':=by
 refine bc Tryz.func106 ?_;rw [Fq];refine aD (wE _ _ _) ?_;rintro v w1 ⟨cg,b8,rfl,a,b,d⟩;have c:=wF;refine ⟨_,rfl,?_⟩;have e:(#[]++#[.int .i64 i]++#[ptr cg,ptr b8]:Array a0)=#[.int .i64 i,ptr cg,ptr b8]:=by simp
 refine pU c e ?_;refine aD (wq w1 a b (by omega) (by omega) i) ?_;rintro v g ⟨rfl,rfl⟩;refine ⟨_,rfl,?_,d⟩;unfold m5;rw [if_neg (by omega),show (3:Int) * 8+i=24+i by omega]
end
theorem CZ (w:al) {c:Int} (a:0<=c/\c<6):ba 224 [.int .i64 c] w λv w'=>v=.int .i64 (eQ c+1)/\w'=w:=by refine bc Tryz.func224 ?_;rw [Gn];refine aD (zN w a (i:=1) (by omega)) ?_;rintro v w1 ⟨rfl,rfl⟩;exact ⟨_,rfl,rfl,rfl⟩
theorem bD.one {u bH bY:al} {v:aF} {x:aG} {b:Nat} (hu:ai u bH) (aj:cA (λk=>k<u.heap.size) bH v x) (g:b=bH.heap.size) (au:av bY b v.cells cr) (f:ai bH bY):bD u bY (some ⟨b,0,none⟩) 1 1 [x]:=by
 have h:=hu.size;refine ⟨⟨[v],⟨by simp [dz];rfl,.inr ⟨b,v.cells,rfl,au,dd 1,by decide,by rw [aF.len],by simp [dz];exact gb (by rw [aF.len];decide)⟩⟩,dX.one ?_⟩,rfl,λk c=>?_⟩
 ·exact aj.ax (ao.bZ f) λk d e=>by
   rcases e with e | ⟨o,a⟩
   ·exact e
   ·exact absurd (congrArg (λo=>o.map Addr.block) a) (by simp;omega)
 ·obtain ⟨o,a⟩:=c;simp at a <;> omega
abbrev kQ (A:a2) (w0 u:al) (aI tb:Nat) (r:cN) (m:aO) (j:bz) (V:ej) (R:b2) (v:a0) (bo:al):Prop:=v=.bool R.ok/\ec A w0 u aI tb u.heap.size r m j V R bo
theorem ec.of {bH bo:al} {B B':Nat} {r:cN} {m:aO} {j:bz} {V:ej} {R:b2} (h:ec A w0 bH aI tb B r m j V R bo) (l:ai u bH) (o:B'<=B):ec A w0 u aI tb B' r m j V R bo:=by
 refine ⟨(ao.bZ l).trans h.ax λ_ _ e=>e,h.eb,?_⟩;obtain ⟨c,i,k,a⟩:=h.hp;refine ⟨c,i,k,?_⟩;cases b:R.ask with
 |none=>rw [b] at a;exact a
 |some vs=>rw [b] at a;obtain ⟨d,w1,f,n,g⟩:=a;exact ⟨d,w1,f,by omega,g⟩
def bR (G:List (List aC)) (vs:List aG):b2:=cd G vs 0
def Di (j:bz):Int:=eQ j.dead+1
def hd (j:bz) (m:aO) (G:List (List aC)):b2:=bR G [qs j m (Di j) (f_ j.inc j.aP) 0]
def iQ (j:bz) (m:aO):aG:=qs j m (Di j) j.prev (f_ j.inc j.aP)
def sm (ds:List aC):Int:=match ds with | []=>0 | d::_=>e5 d
def hQ (j:bz) (m:aO) (G:List (List aC)):b2:=
 if (bR G [iQ j m]).ok=false then bR G [iQ j m]
 else if sm (bR G [iQ j m]).done≠j.prev/\sm (bR G [iQ j m]).done≠f_ j.inc j.aP then ⟨false,[],(3,sm (bR G [iQ j m]).done),(bR G [iQ j m]).a7,none,false⟩
 else ⟨true,[],(0,0),(bR G [iQ j m]).a7,none,false⟩
theorem C0 (i c:Int):b3 (f_ i c):=by
 unfold f_;split
 ·rename_i h;obtain ⟨a,b⟩:=tj h;exact ⟨by omega,by omega⟩
 ·exact gQ
theorem nG {G:List (List aC)} {vs:List aG} (h:(bR G vs).ok=true):(bR G vs).out=(0,0)/\(bR G vs).ask=none/\(bR G vs).di=false:=by
 unfold bR cd at h ⊢;split at h
 ·cases h
 split at h
 ·cases h
 rename_i a b;rw [if_neg a,if_neg b];exact ⟨rfl,rfl,rfl⟩
section
variable {A:a2} {w0 u:al} {aI tb:Nat} {r:cN} {m:aO} {j:bz} {V:ej} {T:ee} {G:List (List aC)}
theorem c6.dQ {o:Int×Int} (h:c6 w0 u aI tb r m j V o):dO m.ch:=by have:=h.ca.dQ m (cj h.mem);unfold dO;omega
def ih (r:cN) (tb:Nat) (m:aO) (j:bz) (aI:Nat) (y:al):Prop:=∃ V o,av y aI (oL r tb m (f_ j.inc j.aP) V o) nv
theorem AT (d:c6 w0 u aI tb r m j V (0,0)) (z:ek A w0 u tb T G) (p:fz T):ba 183 [ptr aI] u (kQ A w0 u aI tb r m j V (hd j m G)):=by
 refine bc Tryz.func183 ?_;rw [ptr,P2];rintro w1 n;have e:ai u w1:=by rw [n];exact cL _
 clear n;have b:=d.bw e;have C:=d.ak.lt;have D:=z.ak.lt;have aA:=d.bs.dead;have q:=d.ca.dead;refine ⟨ih r tb m j aI,⟨_,_,b.ak⟩,aO.aS m ⟨λy c=>by obtain ⟨x,E,c⟩:=c;exact bI c rfl,r.ez,λy c=>by obtain ⟨x,E,c⟩:=c;exact c.cell (i:=5) rfl,_,λy c=>by obtain ⟨x,E,c⟩:=c;exact c.cell (i:=12) rfl,?_⟩⟩;rw [aA];refine aD (CZ w1 q) ?_;rintro v I ⟨rfl,rfl⟩;refine ⟨_,rfl,⟨_,_,b.ak⟩,?_⟩;refine aD (uc b d.dQ _ (C0 _ _) gQ) ?_;rintro v J ⟨F,rfl,t,f⟩;refine aF.aS F ⟨rfl,⟨_,_,(b.bw f).ak⟩,?_⟩;rintro b1 H h o;obtain ⟨g,l⟩:=bk h o;have g:av H b1 F.cells cr:=g;clear o;have k:=f.new l;have a:=e.new k;have s:=e.size;have w:=bD.one f t h g l;refine ⟨⟨_,_,(d.bw a).ak⟩,?_⟩;refine aD (mJ (d.bw a) (z.new a) p b.new (by omega) (by omega) w (by simp)) ?_;rintro v K ⟨dk,dc,raw,rfl,B,_⟩;exact ⟨_,_,_,_,rfl,⟨_,_,B.eb.ak⟩,rfl,B.of a s⟩
theorem Mq (z:c6 w0 u aI tb r m j V (0,0)) (Uw:ek A w0 u tb T G) (Uj:fz T):ba 180 [ptr aI] u (kQ A w0 u aI tb r m j V (hQ j m G)):=by
 refine bc Tryz.func180 ?_;rw [ptr,Qe];rintro w1 U;have E:ai u w1:=by rw [U];exact cL _
 clear U;have p:=z.bw E;have Ux:=z.ak.lt;have Uy:=Uw.ak.lt;have aA:=z.bs.dead;have Up:=z.bs.prev;have Ul:=z.ca.dead;refine ⟨ih r tb m j aI,⟨_,_,p.ak⟩,aO.aS m ⟨λy g=>by obtain ⟨Y,Uv,g⟩:=g;exact bI g rfl,r.ez,λy g=>by obtain ⟨Y,Uv,g⟩:=g;exact g.cell (i:=5) rfl,r.hb,λy g=>by obtain ⟨Y,Uv,g⟩:=g;exact g.cell (i:=7) rfl,_,λy g=>by obtain ⟨Y,Uv,g⟩:=g;exact g.cell (i:=12) rfl,?_⟩⟩;rw [aA,Up];refine aD (CZ w1 Ul) ?_;rintro v UJ ⟨rfl,rfl⟩;refine ⟨_,rfl,⟨_,_,p.ak⟩,?_⟩;refine aD (uc p z.dQ _ z.ca.prev (C0 _ _)) ?_;rintro v UK ⟨UA,rfl,Us,F⟩;refine aF.aS UA ⟨rfl,⟨_,_,(p.bw F).ak⟩,?_⟩;rintro b1 UB L W;obtain ⟨I,N⟩:=bk L W;have I:av UB b1 UA.cells cr:=I;clear W;have M:=F.new N;have f:=E.new M;have P:=E.size;have Ut:=bD.one F Us L I N;refine ⟨⟨_,_,(z.bw f).ak⟩,?_⟩;refine aD (mJ (z.bw f) (Uw.new f) Uj p.new (by omega) (by omega) Ut (by simp)) ?_;rintro v UC ⟨dk,dc,raw,rfl,s,Uq,q,Ur⟩;have s:ec A w0 UB aI tb UJ.heap.size r m j V (bR G [iQ j m]) UC:=s;have q:gi A w0 raw (bR G [iQ j m]).done:=q;show ∃ a b c d,_/\_;refine ⟨_,_,_,_,rfl,⟨_,_,s.eb.ak⟩,?_⟩;unfold hQ;refine dZ (λX=>?_) (λQ=>?_)
 ·have X:(bR G [iQ j m]).ok=false:=X;rw [if_pos X];exact ⟨by rw [X],s.of f P⟩
 have Q:(bR G [iQ j m]).ok=true:=Q;rw [if_neg (by rw [Q];simp)];obtain ⟨UI,UH,Uu⟩:=nG Q;have H:=s.of f P;have B:=H.eb;rw [UI] at B;have Uo:raw.length=1:=Ur Q;obtain ⟨d,rfl⟩:∃ d,raw=[d]:=wZ.1 Uo;obtain ⟨x,Uz⟩:∃ x,(bR G [iQ j m]).done=[x]:=wZ.1 (by rw [<-q.1];rfl);rw [Uz] at q;rw [Uz];have Uk:=q.2 0 d x rfl rfl;refine ew (cells:=bF.cells) bF.len (by decide) (Uq.new B.new) (i:=0) (x:=d) (l:=[d]) rfl rfl rfl λb o Ui _=>bF.aS d ⟨Ui,?_⟩
 refine aD (ul (Uk.ax (ao.bZ B.new) λ_ _ e=>e)) ?_;rintro v UD ⟨rfl,O⟩;have n:=B.bw O;obtain ⟨UE,Z,S,K⟩:=H.hp;rw [UH] at K;rw [Uu] at S;have w:∀ {bo:al} {R:b2},ao (λk=>k=aI) UD bo->c6 w0 bo aI tb r m j V R.out->R.a7=(bR G [iQ j m]).a7->R.ask=none->R.di=false->ec A w0 u aI tb u.heap.size r m j V R bo:=by
  intro bo R Un t D J UG;have C:ao (λk=>k=aI) UC bo:=(ao.bZ O).trans Un λ_ _ e=>e
  refine ⟨H.ax.trans C λk _ e=>.inr e,t,UE,?_,by rw [S,UG],?_⟩
  ·rw [D];exact Z.ax C λe=>z.ne e.symm
  ·rw [J];exact K
 have UF:sm [x]=e5 x:=rfl;rw [UF];have ca:¬ (e5 x≠j.prev/\e5 x≠f_ j.inc j.aP)->kQ A w0 u aI tb r m j V (if e5 x≠j.prev/\e5 x≠f_ j.inc j.aP then ⟨false,[],(3,e5 x),(bR G [iQ j m]).a7,none,false⟩ else ⟨true,[],(0,0),(bR G [iQ j m]).a7,none,false⟩) (.bool true) UD:=by intro h;rw [if_neg h];exact ⟨rfl,w (ao.refl _ _) n rfl rfl rfl⟩
 refine ⟨_,rfl,r.hb,n.ak.cell (i:=7) rfl,dt (λD=>⟨_,n.ak.cell (i:=12) rfl,dt (λJ=>?_) (λJ=>ca λe=>e.2 J)⟩) (λD=>ca λe=>e.1 (by rw [<-Up];exact D))⟩;have D:e5 x≠j.prev:=by rw [<-Up];exact D
 rw [if_pos ⟨D,J⟩];exact CY n (3,e5 x) λw' Um t=>⟨rfl,w Um t rfl rfl rfl⟩
end
end
section
abbrev iG:TypeId:=309
def t5 (l:List c4):List aw:=l.map c4.cells
def cJ (j:bz):List c4:=
 ⟨j.dead,j.dL,true⟩::(if l6 j.prev=true/\ka j.prev≠j.dead then [⟨ka j.prev,j' j.prev+1,false⟩] else [])
theorem AU {j:bz} (h:yd j):∀ f ∈ cJ j,0<=f.aP/\f.aP<6/\0<=f.least/\f.least<=60:=by
 intro f a;have c:=h.dead;have d:=h.dL;unfold cJ at a;rcases dy.1 a with rfl | a
 ·exact ⟨c.1,c.2,by show 0<=j.dL;omega,d.2⟩
 split at a
 ·rename_i b;have b:=of_decide_eq_true (show l6 j.prev=true from b.1);obtain ⟨i,k⟩:=tj b;obtain ⟨e,g,_⟩:=zU b;simp at a;subst a;refine ⟨?_,?_,?_,?_⟩
  ·show 0<=ka j.prev;omega
  ·show ka j.prev<6;omega
  ·show 0<=j' j.prev+1;omega
  ·show j' j.prev+1<=60;omega
 ·cases a
section
variable {A:a2} {w0 u:al} {aI tb:Nat} {r:cN} {m:aO} {j:bz} {V:ej} {T:ee} {G:List (List aC)}
theorem Kn (q:c6 w0 u aI tb r m j V o):ba 219 [ptr aI] u λv bo=>∃ a cap,v=.slice a (cJ j).length cap/\ai u bo/\bg bo a (t5 (cJ j)).flatten/\∀ k,aL a k->u.heap.size<=k:=by
 refine bc Tryz.func219 ?_;rw [ptr,Qu];rintro w1 B;have b:ai u w1:=by rw [B];exact cL _
 clear B;have f:=q.bw b;have aA:=q.bs.dead;have M:=q.bs.dL;have N:=q.bs.prev;have W:=q.ca.dL;refine ⟨λy=>ai w1 y,ao.refl _ _,r.ez,λy O=>(ai.ak O f.ak).cell (i:=5) rfl,r.fu,λy O=>(ai.ak O f.ak).cell (i:=6) rfl,?_⟩;dsimp only;rw [aA,M,jV (x:=j.dL) (by omega) (by omega)];rintro b1 P J C;obtain ⟨d,c⟩:=bk J C;have d:av P b1 (c4.cells ⟨j.dead,j.dL,true⟩) iG:=d;clear C;have w:=f.bw c;refine ⟨c,r.hb,w.ak.cell (i:=7) rfl,?_⟩;rw [N];refine aD (F_ P q.ca.prev) ?_;rintro v Q ⟨rfl,rfl⟩;have aM:∀ k,aL (some ⟨b1,0,none⟩) k->u.heap.size<=k:=λk G=>by obtain ⟨Z,l⟩:=G;simp at l;have:=b.size;omega
 have one:∀ F,cJ j=F->F=[⟨j.dead,j.dL,true⟩]->∃ a cap,Value.slice (some ⟨b1,0,none⟩) 1 1=.slice a (cJ j).length cap/\ai u Q/\bg Q a (t5 (cJ j)).flatten/\∀ k,aL a k->u.heap.size<=k:=by intro F H I;rw [H,I];exact ⟨_,_,rfl,b.new c,e9 d rfl,aM⟩
 refine ⟨_,_,_,rfl,fy (λE=>⟨r.ez,w.ak.cell (i:=5) rfl,dt (λh=>?_) (λhe=>?_)⟩) (λE=>?_)⟩
 ·have h:ka j.prev≠j.dead:=by rw [<-aA];exact h
  have U:cJ j=[⟨j.dead,j.dL,true⟩]++[⟨ka j.prev,j' j.prev+1,false⟩]:=by unfold cJ;rw [if_pos ⟨E,h⟩];rfl
  have t:=of_decide_eq_true (show l6 j.prev=true from E);obtain ⟨Uk,Ul⟩:=tj t;obtain ⟨Ui,Uj,_⟩:=zU t;rw [bA (x:=j' j.prev+1) (by omega) (by omega),jV (x:=j' j.prev+1) (by omega) (by omega)];rintro az R K D;obtain ⟨p,g⟩:=bk K D;have p:av R az (c4.cells ⟨ka j.prev,j' j.prev+1,false⟩) iG:=p;clear D;obtain ⟨inf,X,au,A,L⟩:=fp (T:=iG) (z:=c4.val ⟨0,0,false⟩) (n:=3) (m:=24) (by kernel_rfl);have Y:aY R iG 3 (some ⟨b1,0,none⟩) 1 1 ([(⟨j.dead,j.dL,true⟩:c4)].map c4.cells).flatten:=⟨rfl,.inr ⟨b1,_,rfl,ai.ak g d,dd 1,by decide,rfl,rfl⟩⟩;refine p4 (cells:=c4.cells) (sz:=3) c4.len c4.single Tryz.underlying306 X au (by rw [A];rfl) A (by decide) (by rw [L];decide) Y (l2:=[⟨ka j.prev,j' j.prev+1,false⟩]) (m:=1) (e9 p rfl) rfl (by decide) λap s Um H I S=>?_
  rw [U];refine ⟨ap,s,rfl,?_,H.rd,λk G=>by
   rcases S k G with e | e
   ·exact aM k e
   ·have:=((b.new c).new g).size;omega⟩
  refine ((b.new c).new g).trans I λk G e=>?_
  obtain ⟨Z,l⟩:=e;simp at l;have:=b.size;omega
 ·exact one _ rfl (by unfold cJ;rw [if_neg (λe=>e.2 (by rw [<-aA];exact he))])
 ·exact one _ rfl (by unfold cJ;rw [if_neg (λe=>by rw [E] at e;simp at e)])
def lv (j:bz) (bb:aO) (f:c4):aG:=l7 j bb (24+f.aP) 1
def g1 (j:bz):List aG:=(j.v.mem.map λbb=>(cJ j).map (lv j bb)).flatten
theorem Jc (E:c6 w0 u aI tb r m j V o) (UI:bg u iL (t5 (cJ j)).flatten) (B:aw)
  (Uo:∀ bo aX n pc B,ai u bo->bD u bo aX n pc (g1 j)->Go.bn.W prog (sub (bh f179) [1,1,1,1]) (yF ⟨aI,0,none⟩ iL (cJ j).length kB aX n pc B) (dh prog f179 R) bo) :
  cx prog (.loop (sub (bh f179) [1,1,1,0,1,0,0])) (sH ⟨aI,0,none⟩ iL (cJ j).length kB none 0 0 r.View.e8 r.View.eM r.View.fv r.View.eM 0 B)
   (aW 0 (a1 (λenv w=>Go.bn.W prog (sub (bh f179) [1,1,1,1]) env (dh prog f179 R) w) (dh prog f179 R))) u:=by
 obtain ⟨UU,t⟩:=E.bs.view;have hlen:=t.len;have UL:=E.ca.mem;have UJ:(cJ j).length<=2:=by unfold cJ;split<;>simp
 have Um:=AU E.ca;have Ux:=E.ak.lt;refine c1 mix (λq env z=>∃ (i:Nat) (aX:an) (n pc:Nat) (B:aw),q=j.v.mem.length - i/\i<=j.v.mem.length/\env=sH ⟨aI,0,none⟩ iL (cJ j).length kB aX n pc r.View.e8 r.View.eM r.View.fv r.View.eM i B/\ai u z/\n<=2 * i/\
   bD u z aX n pc ((j.v.mem.take i).map λbb=>(cJ j).map (lv j bb)).flatten) j.v.mem.length
  ⟨0,none,0,0,_,by omega,by omega,rfl,ao.refl _ _,by omega,bD.nil _ _⟩ ?_
 rintro q env z ⟨i,aX,n,pc,B,rfl,UX,rfl,G,UP,H⟩;refine gK (fn:=f179) (R:=R) (λ_ _=>rfl) ?_;rw [Pa,hlen];have L:=E.new.new G;refine a9 (λUN=>?_) (λUK=>?_)
 ·obtain ⟨bb,hm⟩:∃ bb,j.v.mem[i]?=some bb:=⟨_,bM (by omega)⟩;have UO:=E.ca.dQ bb (cj hm);refine ew (cells:=aO.cells) aO.len (by omega) (t.rd.new L) hm rfl rfl λb UY Uk _=>aO.aS bb ⟨Uk,?_⟩
  refine dU (vs:=bb.cells) rfl (aO.single _) λUi U2 UG Ut M=>?_
  refine c1 mix (λq env y=>∃ (k:Nat) (aX:an) (n pc:Nat) (B:aw),q=(cJ j).length - k/\k<=(cJ j).length/\env=u_ ⟨aI,0,none⟩ iL (cJ j).length kB aX n pc ⟨Ui,0,none⟩ r.View.e8 j.v.mem.length r.View.fv j.v.mem.length i iL (cJ j).length kB (cJ j).length k B/\ai u y/\av y Ui bb.cells ed/\n<=2 * i+k/\
    bD u y aX n pc (((j.v.mem.take i).map λbb=>(cJ j).map (lv j bb)).flatten++((cJ j).take k).map (lv j bb))) (cJ j).length
   ⟨0,aX,n,pc,_,by omega,by omega,rfl,G.new M,Ut,by omega,by simpa using H.new M⟩ ?_
  rintro q env y ⟨k,aX,n,pc,B,rfl,UM,rfl,h,Y,UQ,A⟩;refine gK (fn:=f179) (R:=R) (λ_ _=>rfl) ?_;rw [Pb];refine a9 (λUw=>?_) (λUv=>?_)
  ·obtain ⟨f,l⟩:∃ f,(cJ j)[k]?=some f:=⟨_,bM (by omega)⟩;have C:=Um f (cj l);refine ew (cells:=c4.cells) c4.len (by omega) (UI.new h) l rfl rfl λUV UZ J _=>c4.aS f ⟨J,?_⟩
   refine dU (vs:=f.cells) rfl (c4.single _) λUB US UH Uu Uq=>?_
   rintro Uz X;have N:ai US Uz:=by rw [X];exact cL _
   clear X;have g:=Uq.new N;have c:=ai.ak g Y;have d:=ai.ak N Uu;refine ⟨λx=>av x Ui bb.cells ed/\av x UB f.cells iG,⟨c,d⟩,aO.aS bb ⟨λx Us=>bI Us.1 rfl,f.aP,λx Us=>Us.2.cell (i:=0) rfl,?_⟩⟩;refine aD (xm Uz ⟨C.1,C.2.1⟩) ?_;rintro v U0 ⟨rfl,s⟩;refine ⟨_,rfl,⟨ai.ak s c,ai.ak s d⟩,?_⟩;refine aD (tq (E.bw ((h.new g).new s)) (m:=bb) (by unfold dO;omega) (24+f.aP) 1) ?_;rintro v UA ⟨UR,rfl,Ur,F⟩;have a:=s.new F;refine aF.aS UR ⟨rfl,⟨ai.ak a c,ai.ak a d⟩,?_⟩;rintro UW UT Uj U;have P:ai UA UT:=by rw [U];exact gY _ _
   have p:=(g.new s);refine ⟨⟨ai.ak (a.new P) c,ai.ak (a.new P) d⟩,bD.lk (A.new p) (h.new p) F Ur (by omega) Uj U λap I U1 UD K O=>?_⟩;obtain ⟨Uy,S,_⟩:=A.ex;have off:∀ {b:Nat} {cs:aw} {T:TypeId},T≠cr->av UA b cs T->¬ aL aX b:=λUE UF Uo=>by obtain ⟨UC,Ul⟩:=fm (aY.new ((p.new F)) S) Uo;exact Ul.ne UF (λe=>UE e.symm) rfl
   have D:=K.ak (ai.ak a c) (off (by decide) (ai.ak a c));have Z:=K.ak (ai.ak a d) (off (by decide) (ai.ak a d));refine ⟨⟨D,Z⟩,ev ?_⟩;rw [bA (x:=(k:Int)+1) (by omega) (by omega)];refine ⟨(cJ j).length - (k+1),by omega,k+1,ap,n+1,I,_,rfl,by omega,rfl,O,D,by omega,?_⟩;have e:((j.v.mem.take i).map λbb=>(cJ j).map (lv j bb)).flatten++((cJ j).take k).map (lv j bb)++[lv j bb f]=((j.v.mem.take i).map λbb=>(cJ j).map (lv j bb)).flatten++((cJ j).take (k+1)).map (lv j bb):=by rw [eT,l];simp
   rw [<-e];exact UD
  ·have Up:k=(cJ j).length:=by omega
   subst Up;refine oU (oG (oF (ev ?_)));rw [Pp,bA (x:=(i:Int)+1) (by omega) (by omega)];refine ev (Q:=aW 0 (a1 (λenv w=>Go.bn.W prog (sub (bh f179) [1,1,1,1]) env (dh prog f179 R) w) (dh prog f179 R))) ⟨j.v.mem.length - (i+1),by omega,i+1,aX,n,pc,_,rfl,by omega,by rw [<-hlen];rfl,h,by omega,?_⟩;rw [hq] at A;have e:((j.v.mem.take i).map λbb=>(cJ j).map (lv j bb)).flatten++(cJ j).map (lv j bb)=((j.v.mem.take (i+1)).map λbb=>(cJ j).map (lv j bb)).flatten:=by rw [eT,hm];simp
   rw [<-e];exact A
 ·have Un:i=j.v.mem.length:=by omega
  subst Un;refine oU (oG (ev ?_));rw [hq] at H;exact Uo z aX n pc _ G H
end
end
section
def oD:c4:=⟨0,0,false⟩
def dv (ds:List aC) (i:Nat):Int:=e5 (ds.getD i ⟨0,[]⟩)
def fJ (j:bz) (i:Nat):c4:=(cJ j).getD (i % (cJ j).length) oD
def mI (j:bz) (i:Nat):aO:=j.v.mem.getD (i / (cJ j).length) jn
def i' (j:bz) (ds:List aC) (i:Nat):Bool:=(fJ j i).exact && decide (dv ds i>(fJ j i).least)
def sh (j:bz) (ds:List aC) (i:Nat):aG:=qs j (mI j i) (24+(fJ j i).aP) (dv ds i) (fJ j i).least
def rM (j:bz) (ds:List aC) (i:Nat):List (aG×c4):=if dv ds i<(fJ j i).least then [(sh j ds i,fJ j i)] else []
def hy (j:bz) (ds:List aC) (n:Nat):List (aG×c4):=((List.range n).map (rM j ds)).flatten
theorem zo (j:bz) (ds:List aC) (n:Nat):hy j ds (n+1)=hy j ds n++rM j ds n:=by unfold hy;rw [k0];simp
theorem wt (j:bz):0<(cJ j).length/\(cJ j).length<=2:=by unfold cJ;split<;>simp
noncomputable abbrev gz:Func:=f179
structure nk (w0 u z:al) (aI tb:Nat) (r:cN) (m:aO) (j:bz) (V:ej) (aX:an) (n pc:Nat) (pb:an) (fZ:Nat) (L:List (aG×c4)):Prop where
 eb:c6 w0 z aI tb r m j V (0,0)
 new:ai u z
 jT:bD u z aX n pc (L.map Prod.fst)
 qV:aY z iG 3 pb n fZ (t5 (L.map Prod.snd)).flatten
 fO:∀ k,aL pb k->u.heap.size<=k
 le:w0.heap.size<=u.heap.size
theorem nk.jo {b:al} {r:cN} {m:aO} {j:bz} {V:ej} {L:List (aG×c4)} (h:nk w0 u z aI tb r m j V aX n pc pb fZ L) (a:ai z b):nk w0 u b aI tb r m j V aX n pc pb fZ L:=
 ⟨h.eb.bw a,h.new.new a,h.jT.new a,aY.new a h.qV,h.fO,h.le⟩
theorem Jd {j:bz} {ds:List aC}:∀ x ∈ (hy j ds n).map Prod.fst,x.words=[]:=by
 intro x c;obtain ⟨p,a,rfl⟩:=cD.1 c;unfold hy at a;obtain ⟨l,b,a⟩:=kZ.1 a;obtain ⟨i,_,rfl⟩:=cD.1 b;unfold rM at a;split at a
 ·simp at a;rw [a];rfl
 ·cases a
theorem Je {r:cN} {m:aO} {j:bz} {V:ej} {ds:List aC} (h:nk w0 u z aI tb r m j V aX n pc pb fZ (hy j ds i)) (Vn:i<j.v.mem.length * (cJ j).length) (Vy:n<=i)
  {az:Nat} (Uo:av z az (fJ j i).cells iG) (U_:u.heap.size<=az/\¬ aL pb az) (UW:b3 (dv ds i)) {flag:Bool} (f:flag=i' j ds i) {dl:Nat} {U7:aw} {Q:Exit->aw->aE} (dp:∀ env w,Q .ret env w=dh prog gz R .ret env w)
  (Up:i' j ds i=true->∀ Uk,ao (λk=>k=aI) z Uk->c6 w0 Uk aI tb r m j V (11,0)->R (.bool false) Uk)
  (UM:i' j ds i=false->∀ Uk UI n' UK UJ O U7,nk w0 u Uk aI tb r m j V UI n' UK UJ O (hy j ds (i+1))->n'<=i+1->Q .normal (va ⟨aI,0,none⟩ iL (cJ j).length kB UI n' UK UJ n' O dk dl dc dl i U7) Uk) :
  Go.bn.W prog (sub (bh gz) [1,1,1,1,1,1,1,1,0,1,0,0,1,1,0,0,1,1,0,1]) (pw ⟨aI,0,none⟩ iL (cJ j).length kB aX n pc pb n fZ i ⟨az,0,none⟩ (dv ds i) dk dl dc dl i flag U7) Q z:=by
 refine gK (fn:=gz) (R:=R) dp ?_;rw [Pq];have p:=h.eb;obtain ⟨Uq,UX⟩:=wt j;have UZ:=p.ca.mem;have Ur:(fJ j i) ∈ cJ j:=by unfold fJ;have B:i % (cJ j).length<(cJ j).length:=Nat.mod_lt _ Uq;rw [cK,bM B];exact jw B
 have A:=AU p.ca _ Ur;cases flag with
 |true=>refine fK rfl ?_;refine aD (wL p 11) ?_;rintro v Vt ⟨rfl,U1,UB⟩;exact ⟨_,rfl,Up f.symm Vt U1 UB⟩
 |false=>
  refine dw rfl ⟨_,Uo.cell (i:=1) rfl,a9 (λB=>?_) (λUY=>?_)⟩
  ·rintro Vc UH;have Ut:ai z Vc:=by rw [UH];exact cL _
   clear UH;have UL:=h.jo Ut;obtain ⟨Vw,D⟩:=p.bs.view;have hlen:=D.len;have Us:i / (cJ j).length<j.v.mem.length:=(Nat.div_lt_iff_lt_mul Uq).2 Vn;have hm:j.v.mem[i / (cJ j).length]?=some (mI j i):=by unfold mI;rw [cK,bM Us];rfl
   have Vo:=p.ca.dQ _ (cj hm);have hdiv:Int.tdiv (i:Int) ((cJ j).length:Int)=((i / (cJ j).length:Nat):Int):=rfl;generalize i / (cJ j).length=q at Us hm hdiv;have U':i<=10:=by have:j.v.mem.length * (cJ j).length<=5 * 2:=o1 UZ.2 UX;omega
   refine ⟨λy=>∃ V o,c6 w0 y aI tb r m j V o,⟨_,_,UL.eb⟩,r.View.e8,r.View.eM,r.View.fv,λy X=>by obtain ⟨Vh,Vr,X⟩:=X;exact X.ak.cell (i:=4) rfl,rfl,by omega,?_⟩;rw [hdiv];refine j8 (cells:=aO.cells) aO.len (by omega) D.rd hm (bA (by omega) (by omega)) hlen λb o Vm=>aO.aS (mI j i) ⟨λy X=>by obtain ⟨Vh,Vr,X⟩:=X;exact kD (i:=0) λq v aj=>by simpa using Vm y X.new q v aj,?_⟩
   rintro b1 Vu US UE;obtain ⟨Y,Uv⟩:=bk US UE;have Y:av Vu b1 (aO.cells ⟨0,0,false⟩) ed:=Y;clear UE;refine ⟨⟨_,_,(UL.jo Uv).eb⟩,dC (vs:=(mI j i).cells) Y rfl (aO.single _) λVd U5 U2=>?_⟩;have Uu:ai Vc Vd:=Uv.trans U2 λk B e=>by omega
   rintro Ve UF;have Uw:ai Vd Ve:=by rw [UF];exact cL _
   clear UF;have L:=Uu.new Uw;have H:=ai.ak Uw U5;have g:=ai.ak (Ut.new L) Uo;refine ⟨λx=>av x b1 (mI j i).cells ed/\av x az (fJ j i).cells iG,⟨H,g⟩,aO.aS (mI j i) ⟨λx s=>bI s.1 rfl,(fJ j i).aP,λx s=>s.2.cell (i:=0) rfl,(fJ j i).least,λx s=>s.2.cell (i:=1) rfl,?_⟩⟩;refine aD (xm Ve ⟨A.1,A.2.1⟩) ?_;rintro v Vz ⟨rfl,G⟩;refine ⟨_,rfl,⟨ai.ak G H,ai.ak G g⟩,?_⟩;have M:=L.new G;refine aD (uc (UL.jo M).eb (m:=mI j i) (by unfold dO;omega) (24+(fJ j i).aP) UW ⟨A.2.2.1,by omega⟩) ?_;rintro v Vf ⟨Vs,rfl,U3,P⟩;have l:=G.new P;refine aF.aS Vs ⟨rfl,⟨ai.ak l H,ai.ak l g⟩,?_⟩;rintro Vx Vv UT UG;have Ux:ai Vf Vv:=by rw [UG];exact gY _ _
   have UP:=UL.jo M;have Uj:=UP.jo P;have Z:=ai.ak l H;have t:=ai.ak l g;refine ⟨⟨ai.ak Ux Z,ai.ak Ux t⟩,bD.lk UP.jT UP.new P U3 (by omega) UT UG λap I Vg Vl F S=>?_⟩;obtain ⟨Vb,Uy,_⟩:=Uj.jT.ex;have off:∀ {b:Nat} {cs:aw} {T:TypeId},T≠cr->av Vf b cs T->¬ aL aX b:=λUQ UR UM=>by obtain ⟨Um,d⟩:=fm Uy UM;exact d.ne UR (λe=>UQ e.symm) rfl
   have U6:=F.ak Z (off (by decide) Z);have J:=F.ak t (off (by decide) t);have UC:c6 w0 Vg aI tb r m j V (0,0):=Uj.eb.ax F λk a=>by have:=Uj.jT.fO k a;have:=p.new.size;have hu:=h.new.size;have:=h.le;exact ⟨by omega,λe=>off (by decide) Uj.eb.ak (e▸a)⟩
   have K:aY Vg iG 3 pb n fZ (t5 ((hy j ds i).map Prod.snd)).flatten:=Uj.qV.ax F λk a e=>by obtain ⟨cs,d⟩:=fm Uj.qV a;exact off (by decide) d e
   refine ⟨⟨U6,J⟩,c4.aS (fJ j i) ⟨bI J rfl,?_⟩⟩;rintro Vi Ui UU N;obtain ⟨E,c⟩:=bk UU N;have E:av Ui Vi (fJ j i).cells iG:=E;clear N;obtain ⟨inf,U0,U4,UD,UV⟩:=fp (T:=iG) (z:=c4.val ⟨0,0,false⟩) (n:=3) (m:=24) (by kernel_rfl);refine p4 (cells:=c4.cells) (sz:=3) c4.len c4.single Tryz.underlying306 U0 U4 (by rw [UD];rfl) UD (by decide) (by rw [UV];decide) (aY.new c K) (l2:=[fJ j i]) (m:=1) (e9 E rfl) rfl (by omega) λUN Ul U9 Vj UO Vk=>?_
   have UA:hy j ds (i+1)=hy j ds i++[(sh j ds i,fJ j i)]:=by rw [zo,show rM j ds i=[(sh j ds i,fJ j i)] from if_pos B]
   have Uz:∀ {b:Nat} {cs:aw} {T:TypeId},T≠iG->av Ui b cs T->¬ aL pb b:=λUQ UR a=>by obtain ⟨Um,d⟩:=fm (aY.new c K) a;exact d.ne UR (λe=>UQ e.symm) rfl
   have C:=UC.bw c;have hle:=h.le;have Vp:=h.new.size;have Vq:=S.size;refine UM f.symm U9 ap (n+1) I UN Ul _ ⟨C.ax UO λk a=>⟨by have:=h.fO k a;omega,λe=>Uz (by decide) C.ak (e▸a)⟩,(S.new c).trans UO λk Va e=>by have:=h.fO k e;omega,?_,?_,λk a=>?_,hle⟩ (by omega)
   ·rw [UA,jx];have Un:bD u Ui ap (n+1) I ((hy j ds i).map Prod.fst++[sh j ds i]):=Vl.new c;obtain ⟨U8,U,_⟩:=Un.ex;refine Un.yT (λx s=>?_) UO λk a e=>?_
    ·rcases gH.1 s with s | s
     ·exact Jd x s
     ·simp at s;rw [s];rfl
    ·obtain ⟨Um,d⟩:=fm U a;exact Uz (by decide) d e
   ·rw [UA,jx];exact Vj
   ·rcases Vk k a with e | e
    ·exact h.fO k e
    ·have:=S.size;have:=c.size;omega
  ·refine UM f.symm z aX n pc pb fZ _ ?_ (by omega);rw [zo,show rM j ds i=[] from if_neg UY,g_];exact h
end
section
theorem H0 {r:cN} {m:aO} {j:bz} {V:ej} {ds:List aC} {raw:List bF} (US:ds.length=j.v.mem.length * (cJ j).length)
  (UT:bg u iL (t5 (cJ j)).flatten) (UC:bg w0 dk (fq raw).flatten) (S:gi A w0 raw ds) (U0:i<=ds.length) (B:nk w0 u z aI tb r m j V aX n pc pb fZ (hy j ds i)) (UB:n<=i) (I:aw)
  {hZ:Exit->aw->aE} (Uo:∀ env w,hZ .ret env w=dh prog gz R .ret env w)
  (O:i<ds.length->i' j ds i=true->∀ Um F,ai z Um->ao (λk=>k=aI) Um F->c6 w0 F aI tb r m j V (11,0)->R (.bool false) F)
  (M:i<ds.length->i' j ds i=false->∀ F aX n pc pb fZ I,nk w0 u F aI tb r m j V aX n pc pb fZ (hy j ds (i+1))->n<=i+1->hZ .normal (pv ⟨aI,0,none⟩ iL (cJ j).length kB aX n pc pb n fZ dk ds.length dc ds.length (i+1:Nat) I) F)
  (U:i=ds.length->∀ I,hZ (.exit 4) (u' ⟨aI,0,none⟩ aX n pc pb n fZ I) z) :
  Go.bn.W prog (sub (bh gz) [1,1,1,1,1,1,1,1,0,1,0,0]) (pv ⟨aI,0,none⟩ iL (cJ j).length kB aX n pc pb n fZ dk ds.length dc ds.length i I) hZ z:=by
 have UD:=B.eb;obtain ⟨Ut,Uu⟩:=wt j;have Uw:=UD.ca.mem;have UE:raw.length=ds.length:=S.1;have UP:ds.length<=10:=by have:j.v.mem.length * (cJ j).length<=5 * 2:=o1 Uw.2 Uu;omega
 refine gK (fn:=gz) (R:=R) Uo ?_;rw [Pc];have G:=B.eb.new;refine a9 (λX=>?_) (λUU=>U (by omega) _);have C:i<ds.length:=by omega
 obtain ⟨d,aA⟩:∃ d,raw[i]?=some d:=⟨_,bM (by omega)⟩;obtain ⟨x,UQ⟩:∃ x,ds[i]?=some x:=⟨_,bM C⟩;have P:=S.2 i d x aA UQ;have T:dv ds i=e5 x:=by unfold dv;rw [cK,UQ];rfl
 refine ew (cells:=bF.cells) bF.len (by omega) (UC.new G) aA rfl UE.symm λb o Us _=>bF.aS d ⟨Us,?_⟩
 refine dU (vs:=d.cells) rfl (bF.single _) λb1 Um UR UG UA=>?_
 rintro N Uj;have Z:ai Um N:=by rw [Uj];exact cL _
 clear Uj;have f:=UA.new Z;have Y:i % (cJ j).length<(cJ j).length:=Nat.mod_lt _ Ut;have Uv:(cJ j)[i % (cJ j).length]?=some (fJ j i):=by unfold fJ;rw [cK,bM Y];rfl
 have UF:Int.tmod (i:Int) ((cJ j).length:Int)=((i % (cJ j).length:Nat):Int):=rfl;have UH:=ai.ak Z UG;refine ⟨λy=>ai N y,ao.refl _ _,rfl,by omega,?_⟩;rw [UF];refine j8 (cells:=c4.cells) c4.len (by omega) (UT.new (B.new.new f)) Uv rfl rfl λaz U2 Ur=>c4.aS (fJ j i) ⟨λy H=>kD (i:=0) λq v aj=>by simpa using Ur y H q v aj,bF.aS d ⟨λy H=>bI (ai.ak H UH) rfl,?_⟩⟩
 have E:∀ {y:al},ai N y->ba 196 [d.val] y λv w'=>v=.int .u64 (dv ds i)/\ai y w':=by intro y H;rw [T];exact ul (P.ax (ao.bZ (G.new (f.new H))) λ_ _ e=>e)
 have hu:b3 (dv ds i):=by
  rw [T];unfold e5;cases hw:x.words with
  |nil=>exact gQ
  |cons a l=>exact P.wf a (by rw [hw];simp)
 have one:∀ {y:al} {Ul:Nat},ai N y->av y Ul (fJ j i).cells iG->N.heap.size<=Ul->∀ (flag:Bool),flag=i' j ds i->∀ (I:aw),Go.bn.W prog (sub (bh gz) [1,1,1,1,1,1,1,1,0,1,0,0,1,1,0,0,1,1,0,1]) (pw ⟨aI,0,none⟩ iL (cJ j).length kB aX n pc pb n fZ i ⟨Ul,0,none⟩ (dv ds i) dk ds.length dc ds.length i flag I) (aW 6 (aW 5 (a1 (λenv w=>Go.bn.W prog (sub (bh gz) [1,1,1,1,1,1,1,1,0,1,0,0,1,1,1]) env (bC prog gz R hZ) w) (bC prog gz R hZ)))) y:=by
  intro y Ul H Uq UO flag K I;have U1:=f.size;have UW:=B.new.size;refine Je (B.jo (f.new H)) (by omega) UB Uq ⟨by omega,λUy=>?_⟩ hu K (λ_ _=>rfl) (λUp F Ux Ui=>O C Up y F (f.new H) Ux Ui) (λUp F UI n' UK UJ Uk UY Q Uz=>?_)
  ·have:=B.qV.lt Uy;omega
  ·refine oF (oF (ev ?_));rw [Ps,bA (x:=(i:Int)+1) (by omega) (by omega)];exact M C Up F UI n' UK UJ Uk _ Q Uz
 have qH:∀ {t:Bool},(fJ j i).exact=true->t=decide (dv ds i>(fJ j i).least)->t=i' j ds i:=λhe UX=>by unfold i';rw [he,UX];rfl
 have UN:(fJ j i).exact=false->false=i' j ds i:=λhe=>by unfold i';rw [he];rfl
 refine ⟨?_,?_⟩
 ·refine aD (E (ao.refl _ _)) ?_;rintro v UZ ⟨rfl,g⟩;refine ⟨_,rfl,g,?_⟩;rintro Un UL J D;obtain ⟨s,h⟩:=bk J D;have s:av UL Un oD.cells iG:=s;clear D;have UV:=g.size;refine ⟨g.new h,dC (vs:=(fJ j i).cells) s rfl (c4.single _) λUM c L=>?_⟩;have p:ai N UM:=(g.new h).trans L λk X e=>by omega
  exact ⟨p,_,c.cell (i:=2) rfl,fy (λhe=>⟨_,c.cell (i:=1) rfl,one p c (by omega) _ (qH he rfl) _⟩) (λhe=>one p c (by omega) _ (UN he) _)⟩
 ·rintro Un UL J D;obtain ⟨s,h⟩:=bk J D;have s:av UL Un oD.cells iG:=s;clear D;refine ⟨h,?_⟩;refine aD (E h) ?_;rintro v UZ ⟨rfl,g⟩;refine ⟨_,rfl,h.new g,dC (vs:=(fJ j i).cells) (ai.ak g s) rfl (c4.single _) λUM c L=>?_⟩;have p:ai N UM:=(h.new g).trans L λk X e=>by omega
  exact ⟨p,_,c.cell (i:=2) rfl,fy (λhe=>⟨_,c.cell (i:=1) rfl,one p c (by omega) _ (qH he rfl) _⟩) (λhe=>one p c (by omega) _ (UN he) _)⟩
theorem He {r:cN} {m:aO} {j:bz} {V:ej} (o:c6 w0 u aI tb r m j V (0,0)) {ds:List aC} {raw:List bF} (B:ds.length=j.v.mem.length * (cJ j).length)
  (M:bg u iL (t5 (cJ j)).flatten) (I:bg w0 dk (fq raw).flatten) (C:gi A w0 raw ds) (e:aw) {QX:Exit->aw->aE} (x:∀ env w,QX .ret env w=dh prog gz R .ret env w)
  (f:(List.range ds.length).any (i' j ds)=true->∀ z b,ai u z->ao (λk=>k=aI) z b->c6 w0 b aI tb r m j V (11,0)->R (.bool false) b)
  (c:(List.range ds.length).any (i' j ds)=false->∀ b aX n pc pb fZ e,nk w0 u b aI tb r m j V aX n pc pb fZ (hy j ds ds.length)->n<=ds.length->
   Go.bn.W prog (sub (bh gz) [1,1,1,1,1,1,1,1,1]) (u' ⟨aI,0,none⟩ aX n pc pb n fZ e) QX b) :
  cx prog (.loop (sub (bh gz) [1,1,1,1,1,1,1,1,0,1,0,0])) (pv ⟨aI,0,none⟩ iL (cJ j).length kB none 0 0 none 0 0 dk ds.length dc ds.length 0 e)
   (aW 4 (a1 (λenv w=>Go.bn.W prog (sub (bh gz) [1,1,1,1,1,1,1,1,1]) env QX w) QX)) u:=by
 refine c1 mix (λq env z=>∃ (i:Nat) (aX:an) (n pc:Nat) (pb:an) (fZ:Nat) (e:aw),q=ds.length - i/\i<=ds.length/\env=pv ⟨aI,0,none⟩ iL (cJ j).length kB aX n pc pb n fZ dk ds.length dc ds.length i e/\nk w0 u z aI tb r m j V aX n pc pb fZ (hy j ds i)/\n<=i/\∀ k,k<i->i' j ds k=false) ds.length
  ⟨0,none,0,0,none,0,_,by omega,by omega,rfl,⟨o,ao.refl _ _,bD.nil _ _,aY.nil _ _ _,λk c=>absurd c mM,o.new.size⟩,by omega,λk c=>by omega⟩ ?_
 rintro q env z ⟨i,aX,n,pc,pb,fZ,e,rfl,N,rfl,d,l,a⟩;refine H0 B M I C N d l e (R:=R) x (λh y O b H E p=>f ?_ O b (d.new.new H) E p) (λh y b J n' L K t s g G=>?_) (λD s=>?_)
 ·exact o2.2 ⟨i,dS.2 h,y⟩
 ·exact ev ⟨ds.length - (i+1),by omega,i+1,J,n',L,K,t,s,rfl,by omega,rfl,g,G,λk c=>by
   rcases o0.1 c with c | rfl
   ·exact a k c
   ·exact y⟩
 ·subst D;refine oU (oG (ev ?_));refine c ?_ z aX n pc pb fZ _ d l;rw [wT];intro k F;rw [a k (dS.1 F)];simp
end
end Go.Proofs.YtmkljjbioomepaaGreat
