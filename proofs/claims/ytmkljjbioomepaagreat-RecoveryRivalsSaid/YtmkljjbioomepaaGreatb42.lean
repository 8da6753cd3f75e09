import Derived.Test.YtmkljjbioomepaaGreatb26
import Derived.Test.YtmkljjbioomepaaGreatb14
import Derived.Test.YtmkljjbioomepaaGreatb41
import Derived.Test.YtmkljjbioomepaaGreatb35
set_option linter.all false
set_option maxHeartbeats 4000000
set_option maxRecDepth 100000
namespace Go.Proofs.YtmkljjbioomepaaGreat
open Go.Proofs.Tryz Go.bu
section
theorem LJ:Go.iP.kQ prog 8 et=some [false,false,false,false,false,false,false,false,false]:=by kernel_rfl
theorem N4:gJ prog et=true:=by kernel_rfl
theorem Kv:Program.eqGuardType prog (Program.depth prog) et=false:=by kernel_rfl
theorem Jh (r:aK) {K:Bool->Prop} (d:K true):rU prog et r.val r.val K:=by
 refine ⟨true,λw=>?_,d⟩
 have c:Go.iP.jP [false,false,false,false,false,false,false,false,false] r.cells r.cells:=⟨rfl,rfl,rfl,rfl,rfl,rfl,rfl,rfl,rfl,trivial⟩;have he:Go.iP.g9 r.cells r.cells=true:=by simp [aK.cells,Go.iP.g9,Go.iP.qI]
 have b:=Go.iP.v7 8 et _ LJ 10000 (by omega) r.cells r.cells c w;unfold Go.iP.lA at b;rw [if_pos N4,he] at b;have a:(Op.equalIn 10000 et (.agg r.cells.toArray) (.agg r.cells.toArray)).run prog w=.ok true w:=b;exact ⟨λop x y=>run_eqGuard_agg w op et x y _ _ Kv,by rw [aK.val,run_eql_struct,a];rfl,by rw [aK.val,run_neq_struct,a];rfl⟩
theorem Iz (l:List aK) (p:aK):(h4 (l++[p])).flatten=(h4 l).flatten++p.cells:=by simp [h4]
theorem N5 {u:ak} {a:an} {n cap:Nat} {L:List aK} (i:a0 u et 9 a n cap (h4 L).flatten) {p:aK} (o:n<=1000000) {K:Nat->an->Nat->Nat->aE}
  (s:∀ b ap e g,b=u.heap.size->a0 g et 9 ap (n+1) e (h4 (L++[p])).flatten->ao (aL a) u g->(∀ k,aL ap k->aL a k\/u.heap.size<=k)->K b ap (n+1) e g) :
  ∀ b1 j,b1=u.heap.size->j=u.alloc (.cells p.cells.toArray et)->∃ (ap:an) (d c:Nat),∃ g,(Builtin.append_ #[37,37] 37 #[(.slice a n cap),(.slice (some ⟨b1,0,none⟩) 1 1)]).run prog j=.ok (.slice ap d c) g/\K b1 ap d c g:=by
 obtain ⟨inf,r,au,f,q⟩:=fO (T:=et) (z:=.agg #[.int .i64 0,.int .u64 0,.int .u64 0,.int .u64 0,.int .u64 0,.int .u64 0,.int .u64 0,.int .u64 0,.int .u64 0]) (n:=9) (m:=72) (by kernel_rfl);rw [<-f] at i;refine oD Tryz.underlying37 r au (by rw [f];rfl) (by omega) i (by rw [f];rfl) (aK.single p) (by omega) (by omega) ?_;intro b ap e g l h;rw [f,<-Iz] at h;exact s b ap e g l h
theorem s_ {n i:Nat} (h:i<n):(stM n)[i]?=some ⟨(i:Int),1,true⟩:=by simp [stM,h]
theorem Cx (w:ak) (c:Int):a9 41 [.int .i64 c] w λv w'=>v=.bool (decide (0<=c/\c<6))/\w'=w:=by
 refine bc Tryz.func41 ?_;rw [UD];refine a8 (λh=>⟨?_,rfl⟩) (λh=>⟨?_,rfl⟩)
 ·have h:0<=c:=h;congr 1;simp [h]
 ·have h:¬ 0<=c:=h;congr 1;simp [h]
theorem DS (w:ak) {i:Nat} (a:i<6):a9 49 [.int .i64 i] w λv w'=>v=.int .i64 (32+i:Nat)/\w'=w:=by refine bc Tryz.func49 ?_;rw [UT];refine aC (Cx w (i:Int)) ?_;rintro v u ⟨rfl,rfl⟩;refine ⟨_,rfl,cV (by simp;omega) ⟨?_,rfl⟩⟩;rw [bC (by omega) (by omega)];congr 1
theorem Et (w:ak) {i:Nat} (a:i<6):a9 50 [.int .i64 i] w λv w'=>v=.int .i64 (24+i:Nat)/\w'=w:=by refine bc Tryz.func50 ?_;rw [Vd];refine aC (Cx w (i:Int)) ?_;rintro v u ⟨rfl,rfl⟩;refine ⟨_,rfl,cV (by simp;omega) ⟨?_,rfl⟩⟩;rw [bC (by omega) (by omega)];congr 1
structure C3 (a b:aZ) (lines:Nat):Prop where
 up:b.down=false
 d_:∀ l,96<=l->l<lines->a.d_ l=b.d_ l/\a.get (l * 8) % 256=0
 clock:∀ c,c<6->a.get (32+c)=b.get (32+c)/\a.get (24+c)=b.get (24+c)
structure C4 (X:bL) (n lines:Nat):Prop where
 len:X.nodes.length=n
 eq:∀ (i:Nat) (x Hf:g'),X.nodes[i]?=some x->X.nodes[0]?=some Hf->C3 Hf.n x.n lines
 FY:∀ (i:Nat) (x:g'),X.nodes[i]?=some x->lines * 8<=x.n.words.length
 eD:lines<=256
 many:98<=lines
theorem LK {A:a3} {aw:Nat->Tag} {w:ak} {aI:Nat} {X:bL} (h:b2 A aw w aI X) {i:Nat} {x:g'} (d:X.nodes[i]?=some x) {q:Nat} (e:x.n.get q % 256=0):fx .u64 (x.n.get q) 255=0:=by obtain ⟨b,c⟩:=(h.node i x d).node.AM q;have a:fx .u64 (x.n.get q) ((2 ^ 8 - 1:Nat):Int)=x.n.get q % (2 ^ 8:Nat):=A4 b c 8 (by omega);have a:fx .u64 (x.n.get q) 255=x.n.get q % 256:=a;rw [a,e]
theorem N6 {A:a3} {aw:Nat->Tag} {w:ak} {aI:Nat} {X:bL} (h:b2 A aw w aI X) {n lines:Nat} (D:C4 X n lines) {a:an} {S:Nat} (H:bh w a (gj (stM n)).flatten) (Wd:n<=5) :
  a9 27 [ptr aI,.slice a n S,.int .i64 lines] w λv u=>v=.bool true/\ai w u:=by
 have V2:=D.eD;have V9:=D.many;refine bc Tryz.func27 ?_;rw [ptr,ww];refine c2 mix (λq env z=>∃ (i:Nat) (I:ax),q=n - i/\i<=n/\env=xi ⟨aI,0,none⟩ a n S lines i I/\ai w z) n ⟨0,_,rfl,by omega,rfl,ao.refl _ _⟩ ?_;rintro q env z ⟨i,I,rfl,Wi,rfl,V3⟩;rw [R5];refine a8 (λWc=>?_) (λWb=>?_)
 rotate_left
 ·rw [Tf];exact ⟨rfl,V3⟩
 have g:i<n:=by omega
 obtain ⟨x,Q⟩:∃ x,X.nodes[i]?=some x:=⟨_,bD (by rw [D.len];exact g)⟩;obtain ⟨G,f⟩:∃ x,X.nodes[0]?=some x:=⟨_,bD (by rw [D.len];omega)⟩;have e:=D.eq i x G Q f;have T:=D.eq 0 G G f f;have U:=D.FY i x Q;have R:=D.FY 0 G f;refine c2 mix (λq env z=>∃ (l:Nat) (I:ax),q=lines - l/\96<=l/\l<=lines/\env=xj ⟨aI,0,none⟩ a n S lines i l I/\ai w z) (lines - 96) ⟨96,_,rfl,by omega,by omega,rfl,V3⟩ ?_;rintro q env Wl ⟨l,We,rfl,K,Wj,rfl,t⟩;rw [R6];refine a8 (λd=>?_) (λd=>?_)
 ·have d:l<lines:=by omega
  refine er (cells:=aY.cells) aY.len (by omega) (H.new t) (s_ (i:=0) (by omega)) rfl (pL n).symm λb o _ k=>⟨_,k 0 _ rfl,?_⟩
  refine aC (rF (h.new t) f (l:=l) (by omega) (by omega) T.up) ?_;rintro v bE ⟨rfl,B⟩;refine aK.aR (G.n.d_ l) ⟨true,rfl,?_⟩;refine ea (vs:=(G.n.d_ l).cells) rfl (aK.single _) λb1 Wg V_ Y s=>?_
  have r:=(t.new B).new s;refine er (cells:=aY.cells) aY.len (by omega) (H.new r) (s_ (i:=i) g) rfl (pL n).symm λb o _ k=>⟨_,k 0 _ rfl,?_⟩
  refine aC (rF (h.new r) Q (l:=l) (by omega) (by omega) e.up) ?_;rintro v bk ⟨rfl,C⟩;refine aK.aR (x.n.d_ l) ⟨true,rfl,?_⟩;refine ea (vs:=(x.n.d_ l).cells) rfl (aK.single _) λaA Wh V' Z j=>?_
  have E:=ai.aj (C.new j) Y;refine cV rfl (cV rfl ?_);refine aK.aR (G.n.d_ l) ⟨bJ E rfl,aK.aR (x.n.d_ l) ⟨bJ Z rfl,?_⟩⟩;rw [<-(e.d_ l K d).1];refine Jh _ (cV rfl ⟨_,E.cell (i:=1) rfl,dw (λJ=>absurd (LK h f (e.d_ l K d).2) J) λ_=>?_⟩)
  rw [bC (x:=(l:Int)+1) (by omega) (by omega)];exact ⟨lines - (l+1),by omega,l+1,_,rfl,by omega,by omega,rfl,(r.new C).new j⟩
 ·rw [Tg];refine c2 mix (λq env z=>∃ (c:Nat) (I:ax),q=6 - c/\c<=6/\env=xk ⟨aI,0,none⟩ a n S lines i c I/\ai w z) 6 ⟨0,_,rfl,by omega,rfl,t⟩ ?_;rintro q env Wm ⟨c,Wf,rfl,Wa,rfl,B⟩;rw [R7];refine a8 (λd=>?_) (λd=>?_)
  ·have d:c<6:=by omega
   obtain ⟨V7,V8⟩:=e.clock c d;rintro w1 M;have s:ai w w1:=by rw [M];exact B.new (cE _)
   clear M;refine ⟨λy=>ai w1 y,ao.refl _ _,iW (cells:=aY.cells) aY.len (by omega) (H.new s) (s_ (i:=0) (by omega)) rfl (pL n).symm λb o k=>⟨_,λu hu=>k u hu 0 _ rfl,?_⟩⟩;refine aC (DS _ d) ?_;rintro v u ⟨rfl,rfl⟩;refine ⟨_,rfl,ao.refl _ _,?_⟩;refine aC (vQ (h.new s) f (at_:=32+c) (by omega) T.up) ?_;rintro v Wg ⟨rfl,C⟩;refine ⟨_,_,rfl,?_⟩;rintro V4 N;have j:ai w V4:=by rw [N];exact (s.new C).new (cE _)
   clear N;refine ⟨λy=>ai V4 y,ao.refl _ _,iW (cells:=aY.cells) aY.len (by omega) (H.new j) (s_ (i:=i) g) rfl (pL n).symm λb o k=>⟨_,λu hu=>k u hu 0 _ rfl,?_⟩⟩;refine aC (DS _ d) ?_;rintro v u ⟨rfl,rfl⟩;refine ⟨_,rfl,ao.refl _ _,?_⟩;refine aC (vQ (h.new j) Q (at_:=32+c) (by omega) e.up) ?_;rintro v bk ⟨rfl,V⟩;refine ⟨_,_,rfl,?_⟩;rintro V5 O;have F:ai w V5:=by rw [O];exact (j.new V).new (cE _)
   clear O;refine ⟨λy=>ai V5 y,ao.refl _ _,iW (cells:=aY.cells) aY.len (by omega) (H.new F) (s_ (i:=0) (by omega)) rfl (pL n).symm λb o k=>⟨_,λu hu=>k u hu 0 _ rfl,?_⟩⟩;refine aC (Et _ d) ?_;rintro v u ⟨rfl,rfl⟩;refine ⟨_,rfl,ao.refl _ _,?_⟩;refine aC (vQ (h.new F) f (at_:=24+c) (by omega) T.up) ?_;rintro v Wh ⟨rfl,W⟩;refine ⟨_,_,rfl,?_⟩;rintro V6 P;have p:ai w V6:=by rw [P];exact (F.new W).new (cE _)
   clear P;refine ⟨λy=>ai V6 y,ao.refl _ _,iW (cells:=aY.cells) aY.len (by omega) (H.new p) (s_ (i:=i) g) rfl (pL n).symm λb o k=>⟨_,λu hu=>k u hu 0 _ rfl,?_⟩⟩;refine aC (Et _ d) ?_;rintro v u ⟨rfl,rfl⟩;refine ⟨_,rfl,ao.refl _ _,?_⟩;refine aC (vQ (h.new p) Q (at_:=24+c) (by omega) e.up) ?_;rintro v Wk ⟨rfl,L⟩;refine ⟨_,_,rfl,cV rfl (cV rfl (cV rfl (cV rfl (dw (λJ=>absurd V7 J) λ_=>dw (λJ=>absurd V8 J) λ_=>?_))))⟩
   rw [bC (x:=(c:Int)+1) (by omega) (by omega)];exact ⟨6 - (c+1),by omega,c+1,_,rfl,by omega,rfl,p.new L⟩
  ·rw [Th];rw [bC (x:=(i:Int)+1) (by omega) (by omega)];exact ⟨n - (i+1),by omega,i+1,_,rfl,by omega,rfl,B⟩
end
section
open e7
def wb (x q:Nat):Bool:=(x+1) / 2 ^ q % 2 == 1
def mu (x i:Nat):cP:=((List.range i).filter (wb x)).map (96+·)
def ej (x:Nat):cP:=mu x 4
def bB (l:cP):bd:=l.map Int.ofNat
theorem He (x i:Nat):mu x (i+1)=mu x i++(if wb x i=true then [96+i] else []):=by unfold mu;rw [ki,Bh,ja];congr 1;cases h:wb x i<;>simp [h]
theorem Ji:∀ x,x<14->∀ i,i<4->(fx .i64 (db .i64 (((x+1:Nat):Int)) ((i:Nat):Int)) 1 == 1)=wb x i:=by decide
theorem xU {x l:Nat} (h:l ∈ ej x):96<=l/\l<100:=by simp only [ej,mu,cT,tk,fJ] at h;obtain ⟨q,⟨a,_⟩,rfl⟩:=h;omega
theorem IA (x i:Nat):(mu x i).length<=i:=by unfold mu;rw [ft];exact lq (vi _ _) (by simp)
theorem xK:∀ y,y<14->1<=(ej y).length/\(ej y).length<=3:=by decide
def jC (l:Nat):aK:=⟨l,256,1,0,0,0,0,0,0⟩
def uW (n y:Nat):cU:=⟨0,1,101,kc n,[],(ej y).map jC⟩
def gT (n y:Nat):Env:=⟨n,101,tP,λ_=>0,[0],λ_=>uW n y,false⟩
theorem Jj:∀ n,n<3->∀ y,y<14->(uW (n+1) y).valid=0:=by decide +kernel
theorem Jk:∀ y,y<14->fy 1 ((ej y).map jC) 101=0:=by decide +kernel
theorem Pq:eK 256 0≠ln 256:=by decide
theorem rh {n y:Nat} {p:aK}:p ∈ bI (gT n y)↔∃ l,l ∈ ej y/\p=jC l:=by show p ∈ (ej y).map jC↔_;rw [cT];exact ⟨λ⟨l,a,b⟩=>⟨l,a,b.symm⟩,λ⟨l,a,b⟩=>⟨l,a,b.symm⟩⟩
theorem tQ {n y:Nat} (h:1<=n/\n<=3) (b:y<14):b8 (gT n y):=by
 have al:(uW n y).valid=0:=by have:=Jj (n - 1) (by omega) y b;rw [show n - 1+1=n by omega] at this;exact this
 have c:=xK y b;have g:ey (gT n y) 0 ((gT n y).a6 0):=ey.R' al rfl (by omega) rfl rfl (λe=>by have e:(ej y).map jC=[]:=e;have:=congrArg List.length e;rw [ft] at this;simp at this;rw [this] at c;simp at c) (λp a=>by obtain ⟨l,_,rfl⟩:=rh.1 a;rfl) (λs j=>by cases j)
 refine ⟨⟨⟨h.1,by show n<=5;omega⟩,⟨by show 98<=101;omega,by show 101<=256;omega⟩,by show ([0]:cP).Nodup;simp,λi f=>?_⟩,rfl,rfl,λp a=>?_,Jk y b,λp a x d=>?_,λp a=>?_,⟨by show (0:Int)<=0;omega,by show (0:Int)<1;omega⟩,λl _ _=>rfl⟩
 ·have:i ∈ ([0]:cP):=f;simp at this;subst this;exact g
 ·obtain ⟨l,_,rfl⟩:=rh.1 a;exact Pq
 ·obtain ⟨l,_,rfl⟩:=rh.1 a;simp [hA,jC] at d;rcases d with rfl | rfl<;>exact ⟨by omega,by omega⟩
 ·obtain ⟨l,_,rfl⟩:=rh.1 a;exact ⟨by show (0:Int)<=256;omega,by show (256:Int)<_;omega⟩
def lz:bt:=⟨λ_ _=>0,λ_=>false,λ_=>false,λ_=>false,λ_=>false,0⟩
def Eu (n:Nat):Bool:=(fmt 101 n).getD 48 0 == 0 && (fmt 101 n).getD 49 0 == 0
theorem x8 {n:Nat} (a:1<=n/\n<=3):vp n 101=true/\Eu n=true:=by
 obtain rfl | rfl | rfl:n=1\/n=2\/n=3:=by omega
 all_goals exact ⟨by kernel_rfl,by kernel_rfl⟩
theorem LL {n y k:Nat} (B:1<=n/\n<=3) (J:y<14) (r:4<=k/\k<=6):gD (gT n y) [] (aN.fresh n k 101) lz ⟨8,ha⟩ λ_=>ns 12:=by
 obtain ⟨h,hm⟩:=x8 B;simp only [vp,e1,gU,fJ,beq_iff_eq] at h;obtain ⟨u,w,A,o,t⟩:=h;simp only [Eu,e1,beq_iff_eq] at hm;have E:∀ (m:Nat) (x:aZ),(aN.fresh n k 101).nodes[m]?=some x->x=⟨fmt 101 n,false⟩:=λm x e=>by have e:=b7 e;exact (Bl.1 e).2
 have f:∀ (i:Nat) (C:bU),(aN.fresh n k 101).aV[i]?=some C->kf n C/\C.batch=none/\hr C:=λi C e=>by
  have e:=b7 e;obtain ⟨q,I,rfl⟩:=cT.1 e;have g:∀ (k:Nat) (l:cS),(hH n q).aD[k]?=some l->l.pair.ba=[]/\l.pair.words=[]:=λk l a=>by have a:=b7 a;unfold hH kq at a;simp only at a;obtain ⟨z,au,rfl⟩:=cT.1 a;exact ⟨rfl,rfl⟩
  refine ⟨⟨rfl,rfl,by simp [hH,kq],λk l a v eX e _=>?_⟩,rfl,λk l a=>(g k l a).1⟩;rw [(g k l a).1] at e;cases e
 have s:(aN.fresh n k 101).aV[0]?=some (hH n 0):=by show ((List.range k).map (hH n))[0]?=_;rw [dR,kk (by omega)];rfl
 have j:∀ m,Mem (gT n y) lz m ⟨fmt 101 n,false⟩:=λm=>by
  refine ⟨⟨rfl,u,w,A,(o 0 (by omega)).1,λc _ b=>(o c b).1⟩,λp D=>?_,λl dd l2 _ k r=>?_,λc _ b=>(o c b).2,(o 0 (by omega)).2,hm.1,λ_=>hm.2,λe=>by cases e⟩
  ·obtain ⟨l,a,rfl⟩:=rh.1 D;obtain ⟨dd,l2⟩:=xU a;show ∀ k,k<8->_;intro k r;have:=t (l - 96) (by omega) k r;rw [show l - 96+96=l by omega] at this;exact this
  ·have l2:l<101:=l2;have:=t (l - 96) (by omega) k r;rw [show l - 96+96=l by omega] at this;exact this
 obtain ⟨F,G,H⟩:=f 0 _ s;refine ⟨cp.fresh (by omega) (by omega) (by omega),rfl,rfl,by simp [aN.fresh];omega,⟨by show (aN.fresh n k 101).nodes.length=n;simp [aN.fresh],λm x e=>by rw [E m x e];exact j m⟩,?_,.inl rfl,⟨_,s,F,λe=>by have:8<=4:=e;omega,λ_=>⟨G,H⟩⟩,trivial,(λq d e=>by cases e),λ_=>⟨λ_ _=>rfl,λ_ _=>rfl,λ_ _ _ _=>rfl⟩,λc b=>(by cases b),λc b=>(by cases b),λ⟨p,_,e⟩=>by have:(0:Nat)=1:=e;omega,λ_ _=>rfl,λc C _ _ e=>f c C e⟩;have no:∀ {P:Prop},false=true->P:=λh=>by cases h
 exact ⟨λm _ p _=>⟨by show 0<=2;omega,λ_=>by show (0:Nat)≠1;omega⟩,λm _ e=>no e,λm _ p _ e=>(by have:(0:Nat)=2:=e;omega),λm _ e=>no e,λp _ e=>(by have:(0:Nat)=2:=e;omega),λe=>no e,λm _ _ e=>no e⟩
theorem gD.join {E:Env} {F:aN} {A:bt} {g:f_} {gr:Nat->c5} (h:gD E [] F A g gr) {rs:cP} (i:∀ c ∈ rs,1<=c/\c<4):gD E rs F A g λ_=>ns 12:=by
 have b:∀ {P:Prop},(12:Nat)<=9->P:=λh=>by omega
 refine ⟨h.gn,h.lines,h.hL,h.r_,h.rep,h.law,?_,h.cA,h.qY,h.uS,h.xB,λc a=>?_,λc a=>⟨trivial,⟨λe=>by have:12<=7:=e.2;omega,λe=>by have:12=8:=e;omega⟩,(λq d e=>by cases e),cQ _⟩,h.uD,(λ_=>h.op λc f=>by cases f),λc C k p l=>h.rest c C k (by simp) l⟩
 ·rcases h.uX with e | ⟨c,f,_⟩
  ·exact .inl e
  ·cases f
 ·have:=i c a;have r:=h.r_;obtain ⟨C,j⟩:∃ C,F.aV[c]?=some C:=⟨_,bD (by omega)⟩;obtain ⟨r1,n,o⟩:=h.rest c C (by omega) (by simp) j;exact ⟨C,j,r1,λe=>b e,λ_=>⟨n,o⟩⟩
theorem DT {n:Nat}:∀ {ls:List cS} {j:Nat},(∀ (i:Nat) (l:cS),ls[i]?=some l->l.pair.node=((j+i:Nat):Int))->((((ls.map cS.pair).filter λp=>decide (0<p.ba.length)).map λp=>p.node.toNat)).Pairwise (·<·)/\∀ q ∈ (((ls.map cS.pair).filter λp=>decide (0<p.ba.length)).map λp=>p.node.toNat),j<=q
 | [],j,h=>by simp
 |l::ls,j,h=>by
  obtain ⟨d,b⟩:=DT (n:=n) (ls:=ls) (j:=j+1) λi l' f=>by have:=h (i+1) l' (by simpa using f);rw [this];omega
  have c:=h 0 l rfl;by_cases al:0<l.pair.ba.length
  ·rw [f9,List.filter_cons_of_pos (by simpa using al),f9];refine ⟨Ba.2 ⟨λq a=>?_,d⟩,λq a=>?_⟩
   ·have:=b q a;rw [c];omega
   ·rcases e6.1 a with e | e
    ·rw [e,c];omega
    ·have:=b q e;omega
  ·rw [f9,List.filter_cons_of_neg (by simpa using al)];exact ⟨d,λq a=>by have:=b q a;omega⟩
theorem gD.die {E:Env} {rs:cP} {F:aN} {A:bt} {g:f_} {gr:Nat->c5} (h:gD E rs F A g gr):∃ cJ,F.die ((0:Nat):Int)=(true,cJ)/\gb cJ F:=by
 obtain ⟨C,d,t,_⟩:=h.cA;have b:=h.gn.cf.ok.a1 0 C d;have o:=cb d;refine ⟨{ F with bP:=F.bP++(C.aD.map cS.pair).filter (λp=>decide (0<p.ba.length)),aV:=F.aV.set 0 { C with alive:=false,aD:=[],batch:=none,waiting:=0 } },?_,.inr ⟨rfl,rfl,λk u=>hW λe=>u e.symm,λC' a=>?_,λp s=>?_,?_⟩⟩
 ·unfold aN.die;rw [jK,d];simp only;rw [if_neg (by rw [t.live];simp),fU]
 ·simp only [jy o] at a;cases a;rfl
 ·simp only [h.hL,mX] at s;obtain ⟨q,c⟩:=tk.1 s;obtain ⟨l,f,rfl⟩:=cT.1 q;obtain ⟨j,r⟩:=eh.1 f;have w:=(b.lane j l r).node;refine ⟨C,l,d,by rw [w];simpa using r,rfl,λe=>?_⟩
  rw [e] at c;simp at c
 ·simp only [h.hL,mX];exact ((DT (n:=0) (ls:=C.aD) (j:=0) λi l f=>by rw [(b.lane i l f).node];omega).1).imp λh=>by omega
def uI (b:Bool) (l:Nat):aK:=if b=true then ⟨l,512,1,0,0,0,0,0,0⟩ else ⟨l,256,0,0,0,0,0,0,0⟩
structure qj (n y:Nat) (b:Bool) (nodes:List aZ):Prop where
 len:nodes.length=n
 up:∀ (m:Nat) (x:aZ),nodes[m]?=some x->x.down=false/\x.words.length=808
 d_:∀ (m:Nat) (x:aZ),nodes[m]?=some x->∀ l,96<=l->l<101->x.d_ l=uI (b && (ej y).contains l) l
 same:∀ (m:Nat) (x:aZ),nodes[m]?=some x->∀ c,c<6->x.get (24+c)=(if c=0 then 2 else 1)/\x.get (32+c)=if b=true/\c=0 then 1 else 0
theorem LM:ln 256=512:=by decide
theorem Ev {n y:Nat} (H:1<=n/\n<=3) (I:y<14) {A:bt} {nodes:List aZ} (g:jA (gT n y) A nodes) (r:e8 (gT n y) A) (ar:jc (gT n y) A) {b:Bool} (s:if b=true then n6 (gT n y) A else rS (gT n y) A):qj n y b nodes:=by
 have ay:=tQ H I;have q:∀ {m:Nat} {x:aZ},nodes[m]?=some x->m<n:=λ{m x} a=>by have:=cb a;rw [g.len] at this;exact this
 have B:∀ m,m<n->∀ p ∈ bI (gT n y),A.bQ m (br p)=if b=true then 2 else 0:=λm hm p f=>by
  cases b with
  |true=>
   have d:n6 (gT n y) A:=s;show A.bQ m (br p)=2;by_cases e:m=0
   ·subst e;exact d.2.2 p f
   ·exact r.j5 m (by omega) hm (r.k1 d.2.1 m (by omega) hm) p f
  |false=>
   have d:rS (gT n y) A:=s;show A.bQ m (br p)=0;by_cases e:m=0
   ·subst e;exact d.2.2 p f
   ·have G:=r.cY m hm p f;have D:=G.2 (by omega);have E:A.bQ m (br p)≠2:=λF=>by have:=r.iC m hm p f F 0 (by show 0<n;omega);rw [d.2.1 0 (by show 0<n;omega)] at this;cases this
    omega
 have t:∀ m,m<n->A.dJ m=b:=λm hm=>by
  cases b with
  |true=>
   have d:n6 (gT n y) A:=s;by_cases e:m=0
   ·subst e;exact d.2.1
   ·exact r.k1 d.2.1 m (by omega) hm
  |false=>
   have d:rS (gT n y) A:=s;cases j:A.dJ m with
   |false=>rfl
   |true=>have:=r.mq m hm j 0 (by show 0<n;omega);rw [d.2.1 0 (by show 0<n;omega)] at this;cases this
 refine ⟨g.len,λm x a=>⟨(g.mem m x a).aP.up,(g.mem m x a).aP.len⟩,λm x a l D E=>?_,λm x a c j=>⟨?_,?_⟩⟩
 ·have hm:=g.mem m x a;have z:=q a;have key:∀ k,k<8->x.get (l * 8+k)=if (b && (ej y).contains l)=true then ([512,1,0,0,0,0,0,0]:bd).getD k 0 else tP l k:=λk u=>by
   by_cases i:l ∈ ej y
   ·have f:jC l ∈ bI (gT n y):=rh.2 ⟨l,i,rfl⟩;have o:=hm.bQ _ f;rw [B m z _ f] at o;have j:(ej y).contains l=true:=Bf.2 i;rw [j];cases b with
    |true=>
     have o:∀ k,k<8->x.get (l * 8+k)=(ix (jC l)).getD k 0:=o;rw [o k u,if_pos (by simp)];have:ix (jC l)=[512,1,0,0,0,0,0,0]:=by show ln 256::_=_;rw [LM];rfl
     rw [this]
    |false=>have o:∀ k,k<8->x.get (l * 8+k)=tP l k:=o;rw [o k u,if_neg (by simp)]
   ·have j:¬ ((b && (ej y).contains l)=true):=λe=>by rw [e1] at e;exact i (Bf.1 e.2)
    rw [if_neg j];exact hm.gz l D E (λp f e=>by obtain ⟨l',w,rfl⟩:=rh.1 f;have e:l'=l:=e;exact i (by rw [<-e];exact w)) k u
  have C:=key 0 (by omega);rw [l0] at C;unfold aZ.d_ uI;rw [C,key 1 (by omega),key 2 (by omega),key 3 (by omega),key 4 (by omega),key 5 (by omega),key 6 (by omega),key 7 (by omega)];split<;>rfl
 ·by_cases e:c=0
  ·subst e;have:=(g.mem m x a).aP.d0;rw [ar m (q a)] at this;exact this
  ·rw [if_neg e];exact (g.mem m x a).aP.dS c (by omega) j
 ·by_cases e:c=0
  ·subst e;have:=(g.mem m x a).dJ;rw [t m (q a)] at this;cases b with
   |true=>rw [if_pos ⟨rfl,rfl⟩];exact this
   |false=>rw [if_neg (by simp)];exact this
  ·rw [if_neg (λh=>e h.2)];exact (g.mem m x a).cH c (by omega) j
theorem qj.PV {n y:Nat} {b:Bool} {nodes:List aZ} (h:qj n y b nodes) {i:Nat} {x a:aZ} (f:nodes[i]?=some x) (d:nodes[0]?=some a):C3 a x 101:=by
 refine ⟨(h.up i x f).1,λl g j=>⟨?_,?_⟩,λc e=>⟨?_,?_⟩⟩
 ·rw [h.d_ i x f l g j,h.d_ 0 a d l g j]
 ·have:=h.d_ 0 a d l g j;have k:(a.d_ l).Head=a.get (l * 8):=rfl;rw [<-k,this];unfold uI;split<;>rfl
 ·rw [(h.same i x f c e).2,(h.same 0 a d c e).2]
 ·rw [(h.same i x f c e).1,(h.same 0 a d c e).1]
end
namespace hh
abbrev eJ:=cj
abbrev gE:TypeId:=45
abbrev E3:TypeId:=46
structure ip (A:a3) (w:ak) (r:eJ) (t:b_ conv):Prop where
 kind:r.Kind=LN t.bM
 a1:r.Client=t.a1
 e0:r.kT=t.e0
 bad:r.lB=t.bad
 a4:hI A w r.ql t.a4
 dM:r.o8=t.a4.length
 gc:r.o8<=r.tJ
 bM:v9 A w r t.bM
 out:wq A w r t.out
 len:t.a4.length<=201
theorem ip.az {A A':a3} {w w':ak} {r:eJ} {t:b_ conv} (h:ip A w r t) (b:ao A w w') (a:∀ k,k<w.heap.size->A' k->A k):ip A' w' r t:=
 ⟨h.kind,h.a1,h.e0,h.bad,h.a4.az b a,h.dM,h.gc,h.bM.az b a,h.out.az b a,h.len⟩
theorem ip.fail {A:a3} {w:ak} {r:eJ} {t:b_ conv} (h:ip A w r t):ip A w { r with kT:=true,lB:=true } t.fail:=
 ⟨h.kind,h.a1,rfl,rfl,h.a4,h.dM,h.gc,h.bM,h.out,h.len⟩
theorem rG {z:ak} {b1 aA:Nat} {r:eJ} {cs:ax} {R:cB} (b:av z b1 r.cells gE) (c:av z aA cs gE) (f:cs.length=36) (e:∀ w',ao (λk=>k=aA) z w'->R r.val w') :
  cj.ex λx=>b6 z ⟨b1,0,none⟩ 0 x.cells/\ec z ⟨aA,0,none⟩ 0 x.cells/\∀ w',w'=cr z ⟨aA,0,none⟩ 0 x.cells->cj.ex λy=>b6 w' ⟨aA,0,none⟩ 0 y.cells/\w'=w'/\R y.val w':=by
 refine cj.aR r ⟨bJ b rfl,?_⟩;refine dQ (vs:=r.cells) c (by rw [f];rfl) (cj.single r) λw' a d=>?_
 exact cj.aR r ⟨bJ a rfl,rfl,e w' d⟩
def GE (A:a3) (aw:Nat->Tag) (w:ak) (aI:Nat) (x:aN×b_ conv) (v:a2) (w':ak):Prop:=
 dT A aw w aI x.1 w' λB=>∃ r:eJ,v=r.val/\ip B w' r x.2
theorem wc {A:a3} {aw:Nat->Tag} {w z w':ak} {aI b1 aA:Nat} {B:a3} {dz:Nat->Tag} {X:bL} {r:eJ} {t:b_ conv} (h:fw A aw w aI (λk=>k=b1\/k=aA) z B dz X) (c:ip (λk=>B k\/k=b1\/k=aA) z r t) (a:ao (λk=>k=aA) z w') :
  GE A aw w aI (X.pure,t) r.val w':=
 (h.local a λ_ e=>.inr e).done ⟨r,rfl,c.az (a.mono λ_ _ e=>.inr (.inr e)) λk _ b=>.inl b⟩
def hK (ts:List (eJ×b_ conv)):List ax:=ts.map λx=>x.1.cells
theorem sB (ts:List (eJ×b_ conv)):∀ r ∈ hK ts,r.length=36:=by intro r a;simp only [hK,cT] at a;obtain ⟨x,_,rfl⟩:=a;rfl
theorem A5 {ts:List (eJ×b_ conv)} {i:Nat} {x:eJ×b_ conv} (h:ts[i]?=some x):(hK ts)[i]?=some x.1.cells:=by simp [hK,h]
theorem Do (ts:List (eJ×b_ conv)):∀ u ∈ (hK ts).flatten,single u=true:=by intro u hu;obtain ⟨r,b,a⟩:=oW.1 hu;simp only [hK,cT] at b;obtain ⟨x,_,rfl⟩:=b;exact cj.single _ u a
end hh
namespace hh
theorem Pr {A:a3} {z:ak} {r:eJ} {t:b_ conv} (h:ip A z r t) (Wx:∀ k,A k->k<z.heap.size) :
  a9 65 [r.val] z λv Wn=>ai z Wn/\∃ (aa:an) (ac:Nat) (cl:List aG) (Wy:eJ),v=.tuple #[.slice aa cl.length ac,Wy.val]/\bh Wn aa (dP cl).flatten/\(∀ k,aL aa k->z.heap.size<=k)/\ep (λk=>k<z.heap.size) Wn cl (conv.next t.bM t.a4).1/\ip A Wn Wy t.told:=by
 refine bc Tryz.func65 ?_;rw [US];rintro b1 bE Wo Wi;obtain ⟨X,Wh⟩:=bl Wo Wi;have X:av bE b1 r.cells gE:=X;clear Wi;rintro aA Z Wp Wj;obtain ⟨Q,V9⟩:=bl Wp Wj;obtain ⟨Wf,Q,V4⟩:∃ cs,av Z aA cs gE/\cs.length=r.cells.length:=⟨_,Q,rfl⟩;clear Wj;have E:=Wh.new V9;have WD:=Wh.size;have WE:=V9.size;have WA:=X.lt;have WB:=Q.lt;have b:=ai.aj V9 X;cases F:t.bM with
 |inl c=>
  have l:r.Kind=3:=by rw [h.kind,F];rfl
  have V7:e7.qm A z r.en c:=by have:=h.bM;rw [F] at this;exact this
  have j:t.told={ t with e0:=(d9 c t.a4).2.2,out:=.inl (d9 c t.a4).2.1 }:=by unfold b_.told;rw [F];rfl
  have V:conv.next (.inl c) t.a4=((d9 c t.a4).1,.inl (d9 c t.a4).2.1,(d9 c t.a4).2.2):=rfl;refine ⟨_,b.cell (i:=0) rfl,cV (by rw [l];rfl) (cV (by rw [l];rfl) (ek (by rw [l];rfl) ?_))⟩;refine dv.aR r.en ⟨bJ b rfl,_,_,_,b.cell (i:=23) rfl,?_⟩;have p:ao A z Z:=ao.b4 E;have Wk:e7.qm A Z r.en c:=V7.az (A':=A) p λ_ _ e=>e
  have Wr:=h.a4.az (A':=A) p λ_ _ e=>e
  have V6:=Nc Wk.at_ (λ_=>Wk.lK) Wr h.dM h.gc;refine aC V6 ?_;rintro v bk ⟨aa,ac,cl,rfl,J,L,G,W⟩;refine ⟨_,_,_,bA.aR ⟨(d9 c t.a4).2.1.1,(d9 c t.a4).2.1.2⟩ ⟨(d9 c t.a4).2.2,rfl,?_⟩⟩;refine ea (vs:=bA.cells ⟨(d9 c t.a4).2.1.1,(d9 c t.a4).2.1.2⟩) rfl (bA.single _) λWe Wm Wq T B=>?_
  rintro V2 M;have g:ai Wm V2:=by rw [M];exact cE _
  clear M;have Wt:=J.size;have Wu:=B.size;have Wv:=g.size;have a:=ai.aj g T;have d:=(J.new B).new g;have P:=ai.aj d b;have R:=ai.aj d Q;refine ⟨λy=>av y We (bA.cells ⟨(d9 c t.a4).2.1.1,(d9 c t.a4).2.1.2⟩) eS,a,_,λy D=>D.cell (i:=0) rfl,_,λy D=>D.cell (i:=1) rfl,?_⟩;refine kK P (i:=24) rfl λWF V' f=>⟨f.aj a (by omega),?_⟩
  refine kK V' (i:=26) rfl λWG Wa x=>⟨x.aj (f.aj a (by omega)) (by omega),?_⟩
  refine kK Wa (i:=32) rfl λu8 U I=>?_
  rintro V3 O;have C:ai u8 V3:=by rw [O];exact cE _
  clear O;have s:ao (λk=>k=b1) V2 u8:=(f.trans x λ_ _ e=>e).trans I λ_ _ e=>e
  have U:av u8 b1 (cj.cells { r with kT:=(d9 c t.a4).2.2,Code:=(d9 c t.a4).2.1.1,n7:=(d9 c t.a4).2.1.2 }) gE:=U;have Wb:=ai.aj C U;have S:av V3 aA Wf gE:=ai.aj C (s.aj R (by omega));have H:ao (λk=>k=b1) V2 V3:=s.new C;refine ⟨λy=>ai V3 y,ao.refl _ _,cj.aR { r with kT:=(d9 c t.a4).2.2,Code:=(d9 c t.a4).2.1.1,n7:=(d9 c t.a4).2.1.2 } ⟨λy D=>bJ (ai.aj D Wb) rfl,?_⟩⟩;refine dQ S (by rw [V4];rfl) (cj.single _) λWd Wc V8=>?_
  refine cj.aR { r with kT:=(d9 c t.a4).2.2,Code:=(d9 c t.a4).2.1.1,n7:=(d9 c t.a4).2.1.2 } ⟨bJ Wc rfl,rfl,?_⟩;have w:ao (λk=>k=b1\/k=aA) V2 Wd:=(H.mono λk _ e=>.inl e).trans (V8.mono λk _ e=>.inr e) λ_ _ e=>e
  have K:ai z Wd:=(E.new d).trans w λk Ws e=>by omega
  have q:ao (λk=>k=b1\/k=aA) bk Wd:=(ao.b4 (B.new g)).trans w λ_ _ e=>e
  refine ⟨K,aa,ac,cl,_,rfl,L.az q (hn L λk l e=>by have:=G k l;omega),λk l=>by have:=G k l;omega,?_,?_⟩
  ·rw [V];exact W.az (q.mono λk _ e=>by show k<Z.heap.size;omega) λk _ e=>by show k<Z.heap.size;omega
  ·have n:=h.az (A':=A) (ao.b4 K) λ_ _ e=>e
   rw [j];exact ⟨n.kind,n.a1,rfl,n.bad,n.a4,n.dM,n.gc,n.bM,⟨rfl,rfl⟩,n.len⟩
 |inr Y=>
  have l:r.Kind=4:=by rw [h.kind,F];rfl
  have V7:qn A z r.Recover Y:=by have:=h.bM;rw [F] at this;exact this
  have j:t.told={ t with e0:=(fD Y t.a4).2.2,out:=.inr (fD Y t.a4).2.1 }:=by unfold b_.told;rw [F];rfl
  have V:conv.next (.inr Y) t.a4=((fD Y t.a4).1,.inr (fD Y t.a4).2.1,(fD Y t.a4).2.2):=rfl;refine ⟨_,b.cell (i:=0) rfl,cV (by rw [l];rfl) (cV (by rw [l];rfl) (cV (by rw [l];rfl) (ek (by rw [l];rfl) ?_)))⟩;refine dt.aR r.Recover ⟨bJ b rfl,_,_,_,b.cell (i:=23) rfl,?_⟩;have p:ao A z Z:=ao.b4 E;have Wk:qn A Z r.Recover Y:=V7.az (A':=A) p λ_ _ e=>e
  have Wr:=h.a4.az (A':=A) p λ_ _ e=>e
  refine aC (MV Wk.at_ Wr h.dM h.gc) ?_;rintro v bk ⟨aa,ac,cl,rfl,J,L,G,W⟩;generalize WC:fD Y t.a4=N at W j V;obtain ⟨WH,o,Wl⟩:=N;refine ⟨_,_,_,dA.aR o ⟨Wl,rfl,?_⟩⟩;refine ea (vs:=o.cells) rfl (dA.single _) λWe Wm Wq T B=>?_
  rintro V2 M;have g:ai Wm V2:=by rw [M];exact cE _
  clear M;have Wt:=J.size;have Wu:=B.size;have Wv:=g.size;have T:av Wm We o.cells o':=T;have a:=ai.aj g T;have d:=(J.new B).new g;have P:=ai.aj d b;have R:=ai.aj d Q;refine ⟨λy=>av y We o.cells o',a,_,λy D=>D.cell (i:=0) rfl,_,λy D=>D.cell (i:=1) rfl,_,λy D=>D.cell (i:=2) rfl,_,λy D=>D.cell (i:=3) rfl,?_⟩;have off:∀ {u bs:ak},ao (λk=>k=b1) u bs->av u We o.cells o'->av bs We o.cells o':=λl Wz=>l.aj Wz (by omega)
  refine kK P (i:=24) rfl λWF V' f=>⟨off f a,?_⟩
  refine kK V' (i:=26) rfl λWG Wa x=>⟨off x (off f a),?_⟩
  refine kK Wa (i:=33) rfl λu8 U I=>⟨off I (off x (off f a)),?_⟩
  refine kK U (i:=34) rfl λv1 Ww V5=>⟨off V5 (off I (off x (off f a))),?_⟩
  refine kK Ww (i:=35) rfl λv2 V_ Wg=>?_
  rintro V3 O;have C:ai v2 V3:=by rw [O];exact cE _
  clear O;have s:ao (λk=>k=b1) V2 v2:=(((f.trans x λ_ _ e=>e).trans I λ_ _ e=>e).trans V5 λ_ _ e=>e).trans Wg λ_ _ e=>e
  have V_:av v2 b1 (cj.cells { r with kT:=Wl,Code:=o.Code,jZ:=o.jZ,Seq:=o.Seq,jV:=o.jV }) gE:=V_;have Wb:=ai.aj C V_;have S:av V3 aA Wf gE:=ai.aj C (s.aj R (by omega));have H:ao (λk=>k=b1) V2 V3:=s.new C;refine ⟨λy=>ai V3 y,ao.refl _ _,cj.aR { r with kT:=Wl,Code:=o.Code,jZ:=o.jZ,Seq:=o.Seq,jV:=o.jV } ⟨λy D=>bJ (ai.aj D Wb) rfl,?_⟩⟩;refine dQ S (by rw [V4];rfl) (cj.single _) λWd Wc V8=>?_
  refine cj.aR { r with kT:=Wl,Code:=o.Code,jZ:=o.jZ,Seq:=o.Seq,jV:=o.jV } ⟨bJ Wc rfl,rfl,?_⟩;have w:ao (λk=>k=b1\/k=aA) V2 Wd:=(H.mono λk _ e=>.inl e).trans (V8.mono λk _ e=>.inr e) λ_ _ e=>e
  have K:ai z Wd:=(E.new d).trans w λk Ws e=>by omega
  have q:ao (λk=>k=b1\/k=aA) bk Wd:=(ao.b4 (B.new g)).trans w λ_ _ e=>e
  refine ⟨K,aa,ac,cl,_,rfl,L.az q (hn L λk l e=>by have:=G k l;omega),λk l=>by have:=G k l;omega,?_,?_⟩
  ·rw [V];exact W.az (q.mono λk _ e=>by show k<Z.heap.size;omega) λk _ e=>by show k<Z.heap.size;omega
  ·have n:=h.az (A':=A) (ao.b4 K) λ_ _ e=>e
   rw [j];exact ⟨n.kind,n.a1,rfl,n.bad,n.a4,n.dM,n.gc,n.bM,⟨rfl,rfl,rfl,rfl⟩,n.len⟩
end hh
namespace hh
def Dh (o b1 aA:Nat) (z:ak) (R:cB):Prop:=
 ∃ (g:an) (dM gc:Nat),z.cell? ⟨b1,23,none⟩=some (.slice g dM gc)/\(bif (decide ((dM:Int)>200)) then
  ((∃ u,z.cell? ⟨b1,24,none⟩=some u)/\z.frozen? ⟨b1,24,none⟩=false/\∀ d,d=z.setCell ⟨b1,24,none⟩ (.bool true)->(∃ u,d.cell? ⟨b1,25,none⟩=some u)/\d.frozen? ⟨b1,25,none⟩=false/\∀ f,f=d.setCell ⟨b1,25,none⟩ (.bool true)->
   cj.ex λx=>b6 f ⟨b1,0,none⟩ 0 x.cells/\ec f ⟨aA,0,none⟩ 0 x.cells/\∀ w',w'=cr f ⟨aA,0,none⟩ 0 x.cells->cj.ex λy=>b6 w' ⟨aA,0,none⟩ 0 y.cells/\w'=w'/\R y.val w')
  else (cj.ex λr=>b6 z ⟨b1,0,none⟩ 0 r.cells/\Calls prog 65 #[r.val] z λe n=>∃ (a:an) (c8 ac:Nat),cj.ex λj=>e=.returned (.tuple #[.slice a c8 ac,j.val])/\ec n ⟨b1,0,none⟩ 0 j.cells/\∀ b,b=cr n ⟨b1,0,none⟩ 0 j.cells->
   ∃ l:Bool,b.cell? ⟨b1,24,none⟩=some (.bool l)/\(bif (!l) then (∃ dm:Int,b.cell? ⟨b1,1,none⟩=some (.int .i64 dm)/\Calls prog 66 #[.pointer (some ⟨o,0,none⟩),.int .i64 dm,.slice a c8 ac] b λe c=>∃ k:Int,e=.returned (.int .i64 k)/\(bif (k != 0) then
     ((∃ u,c.cell? ⟨b1,24,none⟩=some u)/\c.frozen? ⟨b1,24,none⟩=false/\∀ h,h=c.setCell ⟨b1,24,none⟩ (.bool true)->(∃ u,h.cell? ⟨b1,25,none⟩=some u)/\h.frozen? ⟨b1,25,none⟩=false/\∀ i,i=h.setCell ⟨b1,25,none⟩ (.bool true)->
      cj.ex λx=>b6 i ⟨b1,0,none⟩ 0 x.cells/\ec i ⟨aA,0,none⟩ 0 x.cells/\∀ w',w'=cr i ⟨aA,0,none⟩ 0 x.cells->cj.ex λy=>b6 w' ⟨aA,0,none⟩ 0 y.cells/\w'=w'/\R y.val w')
     else (cj.ex λx=>b6 c ⟨b1,0,none⟩ 0 x.cells/\ec c ⟨aA,0,none⟩ 0 x.cells/\∀ w',w'=cr c ⟨aA,0,none⟩ 0 x.cells->cj.ex λy=>b6 w' ⟨aA,0,none⟩ 0 y.cells/\w'=w'/\R y.val w')))
    else (cj.ex λx=>b6 b ⟨b1,0,none⟩ 0 x.cells/\ec b ⟨aA,0,none⟩ 0 x.cells/\∀ w',w'=cr b ⟨aA,0,none⟩ 0 x.cells->cj.ex λy=>b6 w' ⟨aA,0,none⟩ 0 y.cells/\w'=w'/\R y.val w'))))
theorem Ew {A:a3} {aw:Nat->Tag} {w z:ak} {aI b1 aA:Nat} {B:a3} {dz:Nat->Tag} {X:bL} {r:eJ} {t:b_ conv} (h:fw A aw w aI (λk=>k=b1\/k=aA) z B dz X) (s:b1≠aA) (c:av z b1 r.cells gE) {cs:ax} (n:av z aA cs gE) (o:cs.length=36) (D:ip (λk=>B k\/k=b1\/k=aA) z r t) :
  (∃ u,z.cell? ⟨b1,24,none⟩=some u)/\z.frozen? ⟨b1,24,none⟩=false/\∀ l,l=z.setCell ⟨b1,24,none⟩ (.bool true)->(∃ u,l.cell? ⟨b1,25,none⟩=some u)/\l.frozen? ⟨b1,25,none⟩=false/\∀ j,j=l.setCell ⟨b1,25,none⟩ (.bool true)->
   cj.ex λx=>b6 j ⟨b1,0,none⟩ 0 x.cells/\ec j ⟨aA,0,none⟩ 0 x.cells/\∀ w',w'=cr j ⟨aA,0,none⟩ 0 x.cells->cj.ex λy=>b6 w' ⟨aA,0,none⟩ 0 y.cells/\w'=w'/\GE A aw w aI (X.pure,t.fail) y.val w':=by
 refine ⟨⟨_,c.cell rfl⟩,c.frozen,?_⟩;rintro l f;have q:ao (λk=>k=b1) z l:=by rw [f];exact eY _ _ _ _
 have a:=c.setCell (i:=24) (.bool true);rw [<-f] at a;clear f;refine ⟨⟨_,a.cell rfl⟩,a.frozen,?_⟩;rintro j g;have d:ao (λk=>k=b1) z j:=by rw [g];exact q.setCell (.inl rfl) _
 have b:=a.setCell (i:=25) (.bool true);rw [<-g] at b;clear g;have b:av j b1 ({ r with kT:=true,lB:=true }:eJ).cells gE:=b;refine rG b (d.aj n λe=>s e.symm) o λw' p=>?_
 exact wc (h.local d λ_ e=>.inl e) ((D.az (d.mono λ_ _ e=>.inr (.inl e)) λ_ _ C=>C).fail) p
theorem Ex {A:a3} {aw:Nat->Tag} {w z:ak} {aI b1 aA:Nat} {B:a3} {dz:Nat->Tag} {X:bL} {r:eJ} {t:b_ conv} (h:fw A aw w aI (λk=>k=b1\/k=aA) z B dz X) (T:Good X.pure) (s:b1≠aA)
  (b:av z b1 r.cells gE) {cs:ax} (n:av z aA cs gE) (d:cs.length=36) (U:ip (λk=>B k\/k=b1\/k=aA) z r t) :
  Dh aI b1 aA z (GE A aw w aI (kM X.pure t)):=by
 unfold Dh kM;have V3:=U.dM;refine ⟨_,_,_,b.cell rfl,a8 (λV2=>?_) (λV2=>?_)⟩
 ·rw [if_pos (by omega)];exact Ew h s b n d U
 ·rw [if_neg (by omega)];refine cj.aR r ⟨bJ b rfl,?_⟩;refine aC (Pr U (λk D=>h.cd.low k D)) ?_;rintro v V7 ⟨q,aa,ac,cl,K,rfl,G,C,V,f⟩;refine ⟨_,_,_,cj.aR K ⟨rfl,?_⟩⟩;have W:=b.lt;have Y:=n.lt;refine dQ (vs:=K.cells) (ai.aj q b) rfl (cj.single K) λL a c=>?_
  have E:ao (λk=>k=b1) z L:=(ao.b4 q).trans c λ_ _ e=>e
  have M:=(h.new q).local c λ_ e=>.inl e
  have H:=f.az (A':=λk=>B k\/k=b1\/k=aA) (c.mono λ_ _ e=>.inr (.inl e)) λ_ _ P=>P
  have j:av L aA cs gE:=E.aj n λe=>s e.symm
  have l:bh L aa (dP cl).flatten:=G.az c (hn G λk D e=>by have:=C k D;omega);refine ⟨_,a.cell rfl,ev (λS=>?_) (λS=>?_)⟩
  ·have u:(conv.next t.bM t.a4).2.2=false:=by rw [<-S];exact f.e0.symm
   rw [if_neg (by rw [u];simp)];refine ⟨_,a.cell rfl,?_⟩;have F:((dP cl).flatten=[])\/gl (λk=>B k\/k=b1\/k=aA) aa:=hn l λk D e=>by have N:=C k D;have V6:=h.cd.low k e;omega
   have J:ep (λk=>B k\/k=b1\/k=aA) L cl (conv.next t.bM t.a4).1:=V.az (c.mono λk _ e=>by show k<z.heap.size;omega) λk _ P=>h.cd.low k P
   have Q:K.Client=t.a1:=f.a1;rw [Q];refine aC (NI M.cd T.ok t.a1 (lcap:=ac) l F J) ?_;rintro v Z ⟨rfl,V4⟩;obtain ⟨B',V8,V5,N,y,_,R,O,x⟩:=M.op V4;have g:av Z b1 K.cells gE:=(x b1 (.inl rfl)).trans a;have i:av Z aA cs gE:=(x aA (.inr rfl)).trans j;have I:=H.az (A':=λk=>B' k\/k=b1\/k=aA) R O;refine ⟨_,rfl,dw (λo=>?_) (λo=>?_)⟩
   ·rw [if_pos o,<-y];exact Ew N s g i d I
   ·rw [if_neg (λe=>e o)];refine rG g i d λw' p=>?_
    rw [<-y];exact wc N I p
  ·have u:(conv.next t.bM t.a4).2.2=true:=by rw [<-S];exact f.e0.symm
   rw [if_pos u];refine rG a j d λw' p=>?_
   exact wc M H p
theorem Ey {A:a3} {aw:Nat->Tag} {w:ak} {aI:Nat} {X:bL} (h:b2 A aw w aI X) (M:Good X.pure) {r:eJ} {t:b_ conv} (V':ip A w r t) (V_:mR t) :
  a9 34 [ptr aI,r.val] w (GE A aw w aI (cZ X.pure t)):=by
 refine bc Tryz.func34 ?_;rw [ptr,UR];rintro b1 w1 Y P aA S Z Q;obtain ⟨E,L⟩:=bl Y P;obtain ⟨p,C⟩:=bl Z Q;have a:av S b1 r.cells gE:=ai.aj C E;have Wh:=E.lt;have Wa:=L.size;have Wi:=p.lt;have Wb:=C.size;clear P Q E;have x:=L.new C;have D:b1≠aA:=by omega
 have H:fw A aw w aI (λk=>k=b1\/k=aA) S A aw X:=fw.start h x λk Wl=>by omega
 have N:ip (λk=>A k\/k=b1\/k=aA) S r t:=V'.az (ao.b4 x) λk Wf R=>by
  rcases R with R | R
  ·exact R
  ·omega
 have c:∀ w',ao (λk=>k=aA) S w'->GE A aw w aI (X.pure,t) r.val w':=λw' V5=>wc H N V5
 unfold cZ;have B:r.Client=t.a1:=V'.a1;refine ⟨_,a.cell rfl,?_⟩;rw [V'.e0];cases V9:t.e0 with
 |true=>refine ek rfl ?_;rw [if_pos (.inl rfl)];exact rG a p rfl c
 |false=>
  refine cV rfl ?_;refine ⟨_,a.cell rfl,?_⟩;rw [B];refine aC (DH H.cd _) ?_;rintro v Wm ⟨rfl,rfl⟩;refine ⟨_,rfl,ev (λV=>?_) (λV=>?_)⟩
  ·rw [if_pos (.inr (.inl V))];exact rG a p rfl c
  refine ⟨_,a.cell rfl,?_⟩;rw [B];refine aC (J' H.cd _) ?_;rintro v Wn ⟨rfl,rfl⟩;refine ⟨_,rfl,a8 (λhw=>?_) (λhw=>?_)⟩
  ·rw [if_pos (.inr (.inr (by omega)))];exact rG a p rfl c
  rw [if_neg (by rw [V];simp;omega)];refine ⟨_,a.cell rfl,?_⟩;rw [B];refine aC (NG H.cd _) ?_;rintro v Wc Wg;obtain ⟨B',Wo,Wd,T,I,j,V6,U,G⟩:=H.op Wg;have l:av Wc b1 r.cells gE:=(G b1 (.inl rfl)).trans a;have u:=(G aA (.inr rfl)).trans p;have s:=N.az (A':=λk=>B' k\/k=b1\/k=aA) V6 U;have y:Good Wd.pure:=by rw [I];exact M.take _
  have O:∀ ds,(X.pure.take t.a1).1=some ds->ds.length<=1024:=λds=>K3 M
  have hlen:=V_ V9;rw [<-I];generalize (X.pure.take t.a1).1=Wj at j O ⊢;cases Wj with
  |none=>have j:v=.tuple #[.slice none 0 0,.bool false]:=j;subst j;refine ⟨_,_,_,_,rfl,cV rfl ?_⟩;exact Ex T y D l u rfl s
  |some ds=>
   obtain ⟨b,raw,rfl,V2,K,V8⟩:=j;refine ⟨_,_,_,_,rfl,ek rfl ?_⟩;refine ⟨_,_,_,l.cell rfl,?_⟩;rw [s.dM];refine K4 s.a4 (by omega) V2 K V8 (O ds rfl) T.cd.low (by rw [K.1]) ?_;intro Wk ap cap z We V4 J q;have n:=ai.aj q l;refine ⟨⟨_,n.cell rfl⟩,n.frozen,?_⟩;rintro F o;have f:ao (λk=>k=b1) z F:=by rw [o];exact eY _ _ _ _
   have d:=n.setCell (i:=23) (.slice ap (t.a4.length+1) cap);rw [<-o] at d;clear o;have d:av F b1 ({ r with ql:=ap,o8:=t.a4.length+1,tJ:=cap }:eJ).cells gE:=d;refine Ex ((T.new q).local f λ_ e=>.inl e) y D d (f.aj (ai.aj q u) λe=>D e.symm) rfl ?_;have V7:ao (λk=>B' k\/k=b1\/k=aA) Wc F:=(ao.b4 q).trans f λ_ _ e=>.inr (.inl e)
   have g:=s.az (A':=λk=>B' k\/k=b1\/k=aA) V7 λ_ _ W=>W
   have V3:(t.a4++[ds]).length=t.a4.length+1:=by simp
   exact ⟨g.kind,g.a1,g.e0,g.bad,V4.az (f.mono λ_ _ e=>.inr (.inl e)) λ_ _ W=>W,V3.symm,J,g.bM,g.out,by show (t.a4++[ds]).length<=201;omega⟩
end hh
end Go.Proofs.YtmkljjbioomepaaGreat
