import Derived.Test.YtmkljjbioomepaaGreatc27
import Derived.Test.YtmkljjbioomepaaGreatc14
import Derived.Test.YtmkljjbioomepaaGreatc43
import Derived.Test.YtmkljjbioomepaaGreatc36
set_option linter.all false
set_option maxHeartbeats 4000000
set_option maxRecDepth 100000
namespace Go.Proofs.YtmkljjbioomepaaGreat
open Go.Proofs.Tryz Go.br
section
theorem LB:Go.iK.lj prog 8 ep=some [false,false,false,false,false,false,false,false,false]:=by kernel_rfl
theorem MH:gI prog ep=true:=by kernel_rfl
theorem KA:Program.eqGuardType prog (Program.depth prog) ep=false:=by kernel_rfl
theorem Jm (r:aJ) {K:Bool->Prop} (d:K true):rI prog ep r.val r.val K:=by
 refine ⟨true,λw=>?_,d⟩
 have c:Go.iK.jI [false,false,false,false,false,false,false,false,false] r.cells r.cells:=⟨rfl,rfl,rfl,rfl,rfl,rfl,rfl,rfl,rfl,trivial⟩;have he:Go.iK.g6 r.cells r.cells=true:=by simp [aJ.cells,Go.iK.g6,Go.iK.qB]
 have b:=Go.iK.vF 8 ep _ LB 10000 (by omega) r.cells r.cells c w;unfold Go.iK.lX at b;rw [if_pos MH,he] at b;have a:(Op.equalIn 10000 ep (.agg r.cells.toArray) (.agg r.cells.toArray)).run prog w=.ok true w:=b;exact ⟨λop x y=>run_eqGuard_agg w op ep x y _ _ KA,by rw [aJ.val,run_eql_struct,a];rfl,by rw [aJ.val,run_neq_struct,a];rfl⟩
theorem HQ (l:List aJ) (p:aJ):(hV (l++[p])).flatten=(hV l).flatten++p.cells:=by simp [hV]
theorem MI {u:ak} {a:al} {n cap:Nat} {L:List aJ} (i:a2 u ep 9 a n cap (hV L).flatten) {p:aJ} (o:n<=1000000) {K:Nat->al->Nat->Nat->aE}
  (s:∀ b ap e g,b=u.heap.size->a2 g ep 9 ap (n+1) e (hV (L++[p])).flatten->ao (aK a) u g->(∀ k,aK ap k->aK a k\/u.heap.size<=k)->K b ap (n+1) e g) :
  ∀ b1 j,b1=u.heap.size->j=u.alloc (.cells p.cells.toArray ep)->∃ (ap:al) (d c:Nat),∃ g,(Builtin.append_ #[37,37] 37 #[(.slice a n cap),(.slice (some ⟨b1,0,none⟩) 1 1)]).run prog j=.ok (.slice ap d c) g/\K b1 ap d c g:=by
 obtain ⟨inf,r,au,f,q⟩:=fL (T:=ep) (z:=.agg #[.int .i64 0,.int .u64 0,.int .u64 0,.int .u64 0,.int .u64 0,.int .u64 0,.int .u64 0,.int .u64 0,.int .u64 0]) (n:=9) (m:=72) (by kernel_rfl);rw [<-f] at i;refine ou Tryz.underlying37 r au (by rw [f];rfl) (by omega) i (by rw [f];rfl) (aJ.single p) (by omega) (by omega) ?_;intro b ap e g l h;rw [f,<-HQ] at h;exact s b ap e g l h
theorem sO {n i:Nat} (h:i<n):(stM n)[i]?=some ⟨(i:Int),1,true⟩:=by simp [stM,h]
theorem Bt (w:ak) (c:Int):a_ 41 [.int .i64 c] w λv w'=>v=.bool (decide (0<=c/\c<6))/\w'=w:=by
 refine bc Tryz.func41 ?_;rw [t7];refine a' (λh=>⟨?_,rfl⟩) (λh=>⟨?_,rfl⟩)
 ·have h:0<=c:=h;congr 1;simp [h]
 ·have h:¬ 0<=c:=h;congr 1;simp [h]
theorem Dy (w:ak) {i:Nat} (a:i<6):a_ 49 [.int .i64 i] w λv w'=>v=.int .i64 (32+i:Nat)/\w'=w:=by refine bc Tryz.func49 ?_;rw [T8];refine aC (Bt w (i:Int)) ?_;rintro v u ⟨rfl,rfl⟩;refine ⟨_,rfl,cR (by simp;omega) ⟨?_,rfl⟩⟩;rw [bC (by omega) (by omega)];congr 1
theorem DC (w:ak) {i:Nat} (a:i<6):a_ 50 [.int .i64 i] w λv w'=>v=.int .i64 (24+i:Nat)/\w'=w:=by refine bc Tryz.func50 ?_;rw [UB];refine aC (Bt w (i:Int)) ?_;rintro v u ⟨rfl,rfl⟩;refine ⟨_,rfl,cR (by simp;omega) ⟨?_,rfl⟩⟩;rw [bC (by omega) (by omega)];congr 1
structure CN (a b:a0) (lines:Nat):Prop where
 up:b.down=false
 d_:∀ l,96<=l->l<lines->a.d_ l=b.d_ l/\a.get (l * 8) % 256=0
 clock:∀ c,c<6->a.get (32+c)=b.get (32+c)/\a.get (24+c)=b.get (24+c)
structure CO (X:bQ) (n lines:Nat):Prop where
 len:X.nodes.length=n
 eq:∀ (i:Nat) (x GU:g_),X.nodes[i]?=some x->X.nodes[0]?=some GU->CN GU.n x.n lines
 Fx:∀ (i:Nat) (x:g_),X.nodes[i]?=some x->lines * 8<=x.n.words.length
 eA:lines<=256
 many:98<=lines
theorem LC {A:a5} {aw:Nat->Tag} {w:ak} {aN:Nat} {X:bQ} (h:bZ A aw w aN X) {i:Nat} {x:g_} (d:X.nodes[i]?=some x) {q:Nat} (e:x.n.get q % 256=0):fq .u64 (x.n.get q) 255=0:=by obtain ⟨b,c⟩:=(h.node i x d).node.As q;have a:fq .u64 (x.n.get q) ((2 ^ 8 - 1:Nat):Int)=x.n.get q % (2 ^ 8:Nat):=AI b c 8 (by omega);have a:fq .u64 (x.n.get q) 255=x.n.get q % 256:=a;rw [a,e]
theorem NJ {A:a5} {aw:Nat->Tag} {w:ak} {aN:Nat} {X:bQ} (h:bZ A aw w aN X) {n lines:Nat} (D:CO X n lines) {a:al} {S:Nat} (H:bh w a (f_ (stM n)).flatten) (VE:n<=5) :
  a_ 27 [ptr aN,.slice a n S,.int .i64 lines] w λv u=>v=.bool true/\ai w u:=by
 have Vr:=D.eA;have Vy:=D.many;refine bc Tryz.func27 ?_;rw [ptr,Uz];refine c2 mix (λq env z=>∃ (i:Nat) (I:ax),q=n - i/\i<=n/\env=wP ⟨aN,0,none⟩ a n S lines i I/\ai w z) n ⟨0,_,rfl,by omega,rfl,ao.refl _ _⟩ ?_;rintro q env z ⟨i,I,rfl,VJ,rfl,Vs⟩;rw [RA];refine a' (λVD=>?_) (λVC=>?_)
 rotate_left
 ·rw [ro];exact ⟨rfl,Vs⟩
 have g:i<n:=by omega
 obtain ⟨x,Q⟩:∃ x,X.nodes[i]?=some x:=⟨_,bF (by rw [D.len];exact g)⟩;obtain ⟨G,f⟩:∃ x,X.nodes[0]?=some x:=⟨_,bF (by rw [D.len];omega)⟩;have e:=D.eq i x G Q f;have T:=D.eq 0 G G f f;have U:=D.Fx i x Q;have R:=D.Fx 0 G f;refine c2 mix (λq env z=>∃ (l:Nat) (I:ax),q=lines - l/\96<=l/\l<=lines/\env=wV ⟨aN,0,none⟩ a n S lines i l I/\ai w z) (lines - 96) ⟨96,_,rfl,by omega,by omega,rfl,Vs⟩ ?_;rintro q env VM ⟨l,VF,rfl,K,VK,rfl,t⟩;rw [RB];refine a' (λd=>?_) (λd=>?_)
 ·have d:l<lines:=by omega
  refine eo (cells:=aZ.cells) aZ.len (by omega) (H.new t) (sO (i:=0) (by omega)) rfl (pO n).symm λb o _ k=>⟨_,k 0 _ rfl,?_⟩
  refine aC (AC (h.new t) f (l:=l) (by omega) (by omega) T.up) ?_;rintro v bE ⟨rfl,B⟩;refine aJ.aS (G.n.d_ l) ⟨true,rfl,?_⟩;refine ea (vs:=(G.n.d_ l).cells) rfl (aJ.single _) λb1 VH Vz Y s=>?_
  have r:=(t.new B).new s;refine eo (cells:=aZ.cells) aZ.len (by omega) (H.new r) (sO (i:=i) g) rfl (pO n).symm λb o _ k=>⟨_,k 0 _ rfl,?_⟩
  refine aC (AC (h.new r) Q (l:=l) (by omega) (by omega) e.up) ?_;rintro v bu ⟨rfl,C⟩;refine aJ.aS (x.n.d_ l) ⟨true,rfl,?_⟩;refine ea (vs:=(x.n.d_ l).cells) rfl (aJ.single _) λaA VI VA Z j=>?_
  have E:=ai.aj (C.new j) Y;refine cR rfl (cR rfl ?_);refine aJ.aS (G.n.d_ l) ⟨bK E rfl,aJ.aS (x.n.d_ l) ⟨bK Z rfl,?_⟩⟩;rw [<-(e.d_ l K d).1];refine Jm _ (cR rfl ⟨_,E.cell (i:=1) rfl,dw (λJ=>absurd (LC h f (e.d_ l K d).2) J) λ_=>?_⟩)
  rw [bC (x:=(l:Int)+1) (by omega) (by omega)];exact ⟨lines - (l+1),by omega,l+1,_,rfl,by omega,by omega,rfl,(r.new C).new j⟩
 ·rw [Tc];refine c2 mix (λq env z=>∃ (c:Nat) (I:ax),q=6 - c/\c<=6/\env=wW ⟨aN,0,none⟩ a n S lines i c I/\ai w z) 6 ⟨0,_,rfl,by omega,rfl,t⟩ ?_;rintro q env VN ⟨c,VG,rfl,VB,rfl,B⟩;rw [RC];refine a' (λd=>?_) (λd=>?_)
  ·have d:c<6:=by omega
   obtain ⟨Vw,Vx⟩:=e.clock c d;rintro w1 M;have s:ai w w1:=by rw [M];exact B.new (cD _)
   clear M;refine ⟨λy=>ai w1 y,ao.refl _ _,iR (cells:=aZ.cells) aZ.len (by omega) (H.new s) (sO (i:=0) (by omega)) rfl (pO n).symm λb o k=>⟨_,λu hu=>k u hu 0 _ rfl,?_⟩⟩;refine aC (Dy _ d) ?_;rintro v u ⟨rfl,rfl⟩;refine ⟨_,rfl,ao.refl _ _,?_⟩;refine aC (vE (h.new s) f (at_:=32+c) (by omega) T.up) ?_;rintro v VH ⟨rfl,C⟩;refine ⟨_,_,rfl,?_⟩;rintro Vt N;have j:ai w Vt:=by rw [N];exact (s.new C).new (cD _)
   clear N;refine ⟨λy=>ai Vt y,ao.refl _ _,iR (cells:=aZ.cells) aZ.len (by omega) (H.new j) (sO (i:=i) g) rfl (pO n).symm λb o k=>⟨_,λu hu=>k u hu 0 _ rfl,?_⟩⟩;refine aC (Dy _ d) ?_;rintro v u ⟨rfl,rfl⟩;refine ⟨_,rfl,ao.refl _ _,?_⟩;refine aC (vE (h.new j) Q (at_:=32+c) (by omega) e.up) ?_;rintro v bu ⟨rfl,V⟩;refine ⟨_,_,rfl,?_⟩;rintro Vu O;have F:ai w Vu:=by rw [O];exact (j.new V).new (cD _)
   clear O;refine ⟨λy=>ai Vu y,ao.refl _ _,iR (cells:=aZ.cells) aZ.len (by omega) (H.new F) (sO (i:=0) (by omega)) rfl (pO n).symm λb o k=>⟨_,λu hu=>k u hu 0 _ rfl,?_⟩⟩;refine aC (DC _ d) ?_;rintro v u ⟨rfl,rfl⟩;refine ⟨_,rfl,ao.refl _ _,?_⟩;refine aC (vE (h.new F) f (at_:=24+c) (by omega) T.up) ?_;rintro v VI ⟨rfl,W⟩;refine ⟨_,_,rfl,?_⟩;rintro Vv P;have p:ai w Vv:=by rw [P];exact (F.new W).new (cD _)
   clear P;refine ⟨λy=>ai Vv y,ao.refl _ _,iR (cells:=aZ.cells) aZ.len (by omega) (H.new p) (sO (i:=i) g) rfl (pO n).symm λb o k=>⟨_,λu hu=>k u hu 0 _ rfl,?_⟩⟩;refine aC (DC _ d) ?_;rintro v u ⟨rfl,rfl⟩;refine ⟨_,rfl,ao.refl _ _,?_⟩;refine aC (vE (h.new p) Q (at_:=24+c) (by omega) e.up) ?_;rintro v VL ⟨rfl,L⟩;refine ⟨_,_,rfl,cR rfl (cR rfl (cR rfl (cR rfl (dw (λJ=>absurd Vw J) λ_=>dw (λJ=>absurd Vx J) λ_=>?_))))⟩
   rw [bC (x:=(c:Int)+1) (by omega) (by omega)];exact ⟨6 - (c+1),by omega,c+1,_,rfl,by omega,rfl,p.new L⟩
  ·rw [Td];rw [bC (x:=(i:Int)+1) (by omega) (by omega)];exact ⟨n - (i+1),by omega,i+1,_,rfl,by omega,rfl,B⟩
end
section
open e1
def vT (x q:Nat):Bool:=(x+1) / 2 ^ q % 2 == 1
def mq (x i:Nat):cQ:=((List.range i).filter (vT x)).map (96+·)
def ej (x:Nat):cQ:=mq x 4
def bz (l:cQ):bb:=l.map Int.ofNat
theorem GR (x i:Nat):mq x (i+1)=mq x i++(if vT x i=true then [96+i] else []):=by unfold mq;rw [j9,AT,iX];congr 1;cases h:vT x i<;>simp [h]
theorem Jn:∀ x,x<14->∀ i,i<4->(fq .i64 (db .i64 (((x+1:Nat):Int)) ((i:Nat):Int)) 1 == 1)=vT x i:=by decide
theorem xx {x l:Nat} (h:l ∈ ej x):96<=l/\l<100:=by simp only [ej,mq,cW,u5,fE] at h;obtain ⟨q,⟨a,_⟩,rfl⟩:=h;omega
theorem H_ (x i:Nat):(mq x i).length<=i:=by unfold mq;rw [fC];exact ll (u0 _ _) (by simp)
theorem rt:∀ y,y<14->1<=(ej y).length/\(ej y).length<=3:=by decide
def jx (l:Nat):aJ:=⟨l,256,1,0,0,0,0,0,0⟩
def uE (n y:Nat):cS:=⟨0,1,101,j2 n,[],(ej y).map jx⟩
def gb (n y:Nat):Env:=⟨n,101,tz,λ_=>0,[0],λ_=>uE n y,false⟩
theorem Jo:∀ n,n<3->∀ y,y<14->(uE (n+1) y).valid=0:=by decide +kernel
theorem Jp:∀ y,y<14->fr 1 ((ej y).map jx) 101=0:=by decide +kernel
theorem Of:eJ 256 0≠lf 256:=by decide
theorem rl {n y:Nat} {p:aJ}:p ∈ bJ (gb n y)↔∃ l,l ∈ ej y/\p=jx l:=by show p ∈ (ej y).map jx↔_;rw [cW];exact ⟨λ⟨l,a,b⟩=>⟨l,a,b.symm⟩,λ⟨l,a,b⟩=>⟨l,a,b.symm⟩⟩
theorem Ev {n y:Nat} (h:1<=n/\n<=3) (b:y<14):b5 (gb n y):=by
 have an:(uE n y).valid=0:=by have:=Jo (n - 1) (by omega) y b;rw [show n - 1+1=n by omega] at this;exact this
 have c:=rt y b;have g:eu (gb n y) 0 ((gb n y).a1 0):=eu.RG an rfl (by omega) rfl rfl (λe=>by have e:(ej y).map jx=[]:=e;have:=congrArg List.length e;rw [fC] at this;simp at this;rw [this] at c;simp at c) (λp a=>by obtain ⟨l,_,rfl⟩:=rl.1 a;rfl) (λs j=>by cases j)
 refine ⟨⟨⟨h.1,by show n<=5;omega⟩,⟨by show 98<=101;omega,by show 101<=256;omega⟩,by show ([0]:cQ).Nodup;simp,λi f=>?_⟩,rfl,rfl,λp a=>?_,Jp y b,λp a x d=>?_,λp a=>?_,⟨by show (0:Int)<=0;omega,by show (0:Int)<1;omega⟩,λl _ _=>rfl⟩
 ·have:i ∈ ([0]:cQ):=f;simp at this;subst this;exact g
 ·obtain ⟨l,_,rfl⟩:=rl.1 a;exact Of
 ·obtain ⟨l,_,rfl⟩:=rl.1 a;simp [hz,jx] at d;rcases d with rfl | rfl<;>exact ⟨by omega,by omega⟩
 ·obtain ⟨l,_,rfl⟩:=rl.1 a;exact ⟨by show (0:Int)<=256;omega,by show (256:Int)<_;omega⟩
def lu:bA:=⟨λ_ _=>0,λ_=>false,λ_=>false,λ_=>false,λ_=>false,0⟩
def DD (n:Nat):Bool:=(fmt 101 n).getD 48 0 == 0 && (fmt 101 n).getD 49 0 == 0
theorem xL {n:Nat} (a:1<=n/\n<=3):u6 n 101=true/\DD n=true:=by
 obtain rfl | rfl | rfl:n=1\/n=2\/n=3:=by omega
 all_goals exact ⟨by kernel_rfl,by kernel_rfl⟩
theorem LD {n y k:Nat} (B:1<=n/\n<=3) (J:y<14) (r:4<=k/\k<=6):hx (gb n y) [] (aM.fresh n k 101) lu ⟨8,ha⟩ λ_=>lG 12:=by
 obtain ⟨h,hm⟩:=xL B;simp only [u6,eY,gQ,fE,beq_iff_eq] at h;obtain ⟨u,w,A,o,t⟩:=h;simp only [DD,eY,beq_iff_eq] at hm;have E:∀ (m:Nat) (x:a0),(aM.fresh n k 101).nodes[m]?=some x->x=⟨fmt 101 n,false⟩:=λm x e=>by have e:=cg e;exact (AX.1 e).2
 have f:∀ (i:Nat) (C:bP),(aM.fresh n k 101).aX[i]?=some C->j4 n C/\C.batch=none/\hr C:=λi C e=>by
  have e:=cg e;obtain ⟨q,I,rfl⟩:=cW.1 e;have g:∀ (k:Nat) (l:cP),(hF n q).aD[k]?=some l->l.pair.ba=[]/\l.pair.words=[]:=λk l a=>by have a:=cg a;unfold hF kj at a;simp only at a;obtain ⟨z,au,rfl⟩:=cW.1 a;exact ⟨rfl,rfl⟩
  refine ⟨⟨rfl,rfl,by simp [hF,kj],λk l a v eU e _=>?_⟩,rfl,λk l a=>(g k l a).1⟩;rw [(g k l a).1] at e;cases e
 have s:(aM.fresh n k 101).aX[0]?=some (hF n 0):=by show ((List.range k).map (hF n))[0]?=_;rw [d',ka (by omega)];rfl
 have j:∀ m,Mem (gb n y) lu m ⟨fmt 101 n,false⟩:=λm=>by
  refine ⟨⟨rfl,u,w,A,(o 0 (by omega)).1,λc _ b=>(o c b).1⟩,λp D=>?_,λl dd l2 _ k r=>?_,λc _ b=>(o c b).2,(o 0 (by omega)).2,hm.1,λ_=>hm.2,λe=>by cases e⟩
  ·obtain ⟨l,a,rfl⟩:=rl.1 D;obtain ⟨dd,l2⟩:=xx a;show ∀ k,k<8->_;intro k r;have:=t (l - 96) (by omega) k r;rw [show l - 96+96=l by omega] at this;exact this
  ·have l2:l<101:=l2;have:=t (l - 96) (by omega) k r;rw [show l - 96+96=l by omega] at this;exact this
 obtain ⟨F,G,H⟩:=f 0 _ s;refine ⟨cp.fresh (by omega) (by omega) (by omega),rfl,rfl,by simp [aM.fresh];omega,⟨by show (aM.fresh n k 101).nodes.length=n;simp [aM.fresh],λm x e=>by rw [E m x e];exact j m⟩,?_,.inl rfl,⟨_,s,F,λe=>by have:8<=4:=e;omega,λ_=>⟨G,H⟩⟩,trivial,(λq d e=>by cases e),λ_=>⟨λ_ _=>rfl,λ_ _=>rfl,λ_ _ _ _=>rfl⟩,λc b=>(by cases b),λc b=>(by cases b),λ⟨p,_,e⟩=>by have:(0:Nat)=1:=e;omega,λ_ _=>rfl,λc C _ _ e=>f c C e⟩;have no:∀ {P:Prop},false=true->P:=λh=>by cases h
 exact ⟨λm _ p _=>⟨by show 0<=2;omega,λ_=>by show (0:Nat)≠1;omega⟩,λm _ e=>no e,λm _ p _ e=>(by have:(0:Nat)=2:=e;omega),λm _ e=>no e,λp _ e=>(by have:(0:Nat)=2:=e;omega),λe=>no e,λm _ _ e=>no e⟩
theorem hx.join {E:Env} {F:aM} {A:bA} {g:gC} {gr:Nat->c8} (h:hx E [] F A g gr) {rs:cQ} (i:∀ c ∈ rs,1<=c/\c<4):hx E rs F A g λ_=>lG 12:=by
 have b:∀ {P:Prop},(12:Nat)<=9->P:=λh=>by omega
 refine ⟨h.g8,h.lines,h.ib,h.rT,h.rep,h.law,?_,h.cz,h.qP,h.uz,h.xd,λc a=>?_,λc a=>⟨trivial,⟨λe=>by have:12<=7:=e.2;omega,λe=>by have:12=8:=e;omega⟩,(λq d e=>by cases e),cO _⟩,h.uf,(λ_=>h.op λc f=>by cases f),λc C k p l=>h.rest c C k (by simp) l⟩
 ·rcases h.uG with e | ⟨c,f,_⟩
  ·exact .inl e
  ·cases f
 ·have:=i c a;have r:=h.rT;obtain ⟨C,j⟩:∃ C,F.aX[c]?=some C:=⟨_,bF (by omega)⟩;obtain ⟨r1,n,o⟩:=h.rest c C (by omega) (by simp) j;exact ⟨C,j,r1,λe=>b e,λ_=>⟨n,o⟩⟩
def uk (b:Bool) (l:Nat):aJ:=if b=true then ⟨l,512,1,0,0,0,0,0,0⟩ else ⟨l,256,0,0,0,0,0,0,0⟩
structure o0 (n y:Nat) (b:Bool) (nodes:List a0):Prop where
 len:nodes.length=n
 up:∀ (m:Nat) (x:a0),nodes[m]?=some x->x.down=false/\x.words.length=808
 d_:∀ (m:Nat) (x:a0),nodes[m]?=some x->∀ l,96<=l->l<101->x.d_ l=uk (b && (ej y).contains l) l
 same:∀ (m:Nat) (x:a0),nodes[m]?=some x->∀ c,c<6->x.get (24+c)=(if c=0 then 2 else 1)/\x.get (32+c)=if b=true/\c=0 then 1 else 0
theorem LF:lf 256=512:=by decide
theorem Og {n y:Nat} (H:1<=n/\n<=3) (I:y<14) {A:bA} {nodes:List a0} (g:jv (gb n y) A nodes) (r:e2 (gb n y) A) (ar:iZ (gb n y) A) {b:Bool} (s:if b=true then l1 (gb n y) A else o1 (gb n y) A):o0 n y b nodes:=by
 have ay:=Ev H I;have q:∀ {m:Nat} {x:a0},nodes[m]?=some x->m<n:=λ{m x} a=>by have:=ch a;rw [g.len] at this;exact this
 have B:∀ m,m<n->∀ p ∈ bJ (gb n y),A.bS m (bp p)=if b=true then 2 else 0:=λm hm p f=>by
  cases b with
  |true=>
   have d:l1 (gb n y) A:=s;show A.bS m (bp p)=2;by_cases e:m=0
   ·subst e;exact d.2.2 p f
   ·exact r.kW m (by omega) hm (r.kV d.2.1 m (by omega) hm) p f
  |false=>
   have d:o1 (gb n y) A:=s;show A.bS m (bp p)=0;by_cases e:m=0
   ·subst e;exact d.2.2 p f
   ·have G:=r.cU m hm p f;have D:=G.2 (by omega);have E:A.bS m (bp p)≠2:=λF=>by have:=r.ix m hm p f F 0 (by show 0<n;omega);rw [d.2.1 0 (by show 0<n;omega)] at this;cases this
    omega
 have t:∀ m,m<n->A.dK m=b:=λm hm=>by
  cases b with
  |true=>
   have d:l1 (gb n y) A:=s;by_cases e:m=0
   ·subst e;exact d.2.1
   ·exact r.kV d.2.1 m (by omega) hm
  |false=>
   have d:o1 (gb n y) A:=s;cases j:A.dK m with
   |false=>rfl
   |true=>have:=r.ni m hm j 0 (by show 0<n;omega);rw [d.2.1 0 (by show 0<n;omega)] at this;cases this
 refine ⟨g.len,λm x a=>⟨(g.mem m x a).aQ.up,(g.mem m x a).aQ.len⟩,λm x a l D E=>?_,λm x a c j=>⟨?_,?_⟩⟩
 ·have hm:=g.mem m x a;have z:=q a;have key:∀ k,k<8->x.get (l * 8+k)=if (b && (ej y).contains l)=true then ([512,1,0,0,0,0,0,0]:bb).getD k 0 else tz l k:=λk u=>by
   by_cases i:l ∈ ej y
   ·have f:jx l ∈ bJ (gb n y):=rl.2 ⟨l,i,rfl⟩;have o:=hm.bS _ f;rw [B m z _ f] at o;have j:(ej y).contains l=true:=AR.2 i;rw [j];cases b with
    |true=>
     have o:∀ k,k<8->x.get (l * 8+k)=(ir (jx l)).getD k 0:=o;rw [o k u,if_pos (by simp)];have:ir (jx l)=[512,1,0,0,0,0,0,0]:=by show lf 256::_=_;rw [LF];rfl
     rw [this]
    |false=>have o:∀ k,k<8->x.get (l * 8+k)=tz l k:=o;rw [o k u,if_neg (by simp)]
   ·have j:¬ ((b && (ej y).contains l)=true):=λe=>by rw [eY] at e;exact i (AR.1 e.2)
    rw [if_neg j];exact hm.gw l D E (λp f e=>by obtain ⟨l',w,rfl⟩:=rl.1 f;have e:l'=l:=e;exact i (by rw [<-e];exact w)) k u
  have C:=key 0 (by omega);rw [lY] at C;unfold a0.d_ uk;rw [C,key 1 (by omega),key 2 (by omega),key 3 (by omega),key 4 (by omega),key 5 (by omega),key 6 (by omega),key 7 (by omega)];split<;>rfl
 ·by_cases e:c=0
  ·subst e;have:=(g.mem m x a).aQ.d0;rw [ar m (q a)] at this;exact this
  ·rw [if_neg e];exact (g.mem m x a).aQ.dR c (by omega) j
 ·by_cases e:c=0
  ·subst e;have:=(g.mem m x a).dK;rw [t m (q a)] at this;cases b with
   |true=>rw [if_pos ⟨rfl,rfl⟩];exact this
   |false=>rw [if_neg (by simp)];exact this
  ·rw [if_neg (λh=>e h.2)];exact (g.mem m x a).cG c (by omega) j
theorem o0.Pr {n y:Nat} {b:Bool} {nodes:List a0} (h:o0 n y b nodes) {i:Nat} {x a:a0} (f:nodes[i]?=some x) (d:nodes[0]?=some a):CN a x 101:=by
 refine ⟨(h.up i x f).1,λl g j=>⟨?_,?_⟩,λc e=>⟨?_,?_⟩⟩
 ·rw [h.d_ i x f l g j,h.d_ 0 a d l g j]
 ·have:=h.d_ 0 a d l g j;have k:(a.d_ l).Head=a.get (l * 8):=rfl;rw [<-k,this];unfold uk;split<;>rfl
 ·rw [(h.same i x f c e).2,(h.same 0 a d c e).2]
 ·rw [(h.same i x f c e).1,(h.same 0 a d c e).1]
end
namespace g4
abbrev eI:=ca
abbrev gU:TypeId:=45
abbrev ED:TypeId:=46
structure gu (A:a5) (w:ak) (r:eI) (t:b9 conv):Prop where
 kind:r.Kind=Ls t.bN
 a3:r.Client=t.a3
 eK:r.kd=t.eK
 bad:r.oS=t.bad
 a7:hG A w r.qe t.a7
 dQ:r.o3=t.a7.length
 gc:r.o3<=r.qf
 bN:vL A w r t.bN
 out:vY A w r t.out
 len:t.a7.length<=201
theorem gu.az {A A':a5} {w w':ak} {r:eI} {t:b9 conv} (h:gu A w r t) (b:ao A w w') (a:∀ k,k<w.heap.size->A' k->A k):gu A' w' r t:=
 ⟨h.kind,h.a3,h.eK,h.bad,h.a7.az b a,h.dQ,h.gc,h.bN.az b a,h.out.az b a,h.len⟩
theorem gu.fail {A:a5} {w:ak} {r:eI} {t:b9 conv} (h:gu A w r t):gu A w { r with kd:=true,oS:=true } t.fail:=
 ⟨h.kind,h.a3,rfl,rfl,h.a7,h.dQ,h.gc,h.bN,h.out,h.len⟩
theorem rn {z:ak} {b1 aA:Nat} {r:eI} {cs:ax} {R:cA} (b:av z b1 r.cells gU) (c:av z aA cs gU) (f:cs.length=36) (e:∀ w',ao (λk=>k=aA) z w'->R r.val w') :
  ca.ex λx=>b6 z ⟨b1,0,none⟩ 0 x.cells/\eh z ⟨aA,0,none⟩ 0 x.cells/\∀ w',w'=ct z ⟨aA,0,none⟩ 0 x.cells->ca.ex λy=>b6 w' ⟨aA,0,none⟩ 0 y.cells/\w'=w'/\R y.val w':=by
 refine ca.aS r ⟨bK b rfl,?_⟩;refine dO (vs:=r.cells) c (by rw [f];rfl) (ca.single r) λw' a d=>?_
 exact ca.aS r ⟨bK a rfl,rfl,e w' d⟩
def rM (A:a5) (aw:Nat->Tag) (w:ak) (aN:Nat) (x:aM×b9 conv) (v:a4) (w':ak):Prop:=
 d8 A aw w aN x.1 w' λB=>∃ r:eI,v=r.val/\gu B w' r x.2
theorem vU {A:a5} {aw:Nat->Tag} {w z w':ak} {aN b1 aA:Nat} {B:a5} {dq:Nat->Tag} {X:bQ} {r:eI} {t:b9 conv} (h:e' A aw w aN (λk=>k=b1\/k=aA) z B dq X) (c:gu (λk=>B k\/k=b1\/k=aA) z r t) (a:ao (λk=>k=aA) z w') :
  rM A aw w aN (X.pure,t) r.val w':=
 (h.local a λ_ e=>.inr e).done ⟨r,rfl,c.az (a.mono λ_ _ e=>.inr (.inr e)) λk _ b=>.inl b⟩
def g' (ts:List (eI×b9 conv)):List ax:=ts.map λx=>x.1.cells
theorem sf (ts:List (eI×b9 conv)):∀ r ∈ g' ts,r.length=36:=by intro r a;simp only [g',cW] at a;obtain ⟨x,_,rfl⟩:=a;rfl
theorem AY {ts:List (eI×b9 conv)} {i:Nat} {x:eI×b9 conv} (h:ts[i]?=some x):(g' ts)[i]?=some x.1.cells:=by simp [g',h]
theorem H' (ts:List (eI×b9 conv)):∀ u ∈ (g' ts).flatten,single u=true:=by intro u hu;obtain ⟨r,b,a⟩:=oO.1 hu;simp only [g',cW] at b;obtain ⟨x,_,rfl⟩:=b;exact ca.single _ u a
end g4
namespace g4
theorem Oh {A:a5} {z:ak} {r:eI} {t:b9 conv} (h:gu A z r t) (VY:∀ k,A k->k<z.heap.size) :
  a_ 65 [r.val] z λv VO=>ai z VO/\∃ (aa:al) (ac:Nat) (cf:List aG) (VZ:eI),v=.tuple #[.slice aa cf.length ac,VZ.val]/\bh VO aa (dP cf).flatten/\(∀ k,aK aa k->z.heap.size<=k)/\en (λk=>k<z.heap.size) VO cf (conv.next t.bN t.a7).1/\gu A VO VZ t.told:=by
 refine bc Tryz.func65 ?_;rw [T4];rintro b1 bE VP VJ;obtain ⟨X,VI⟩:=bl VP VJ;have X:av bE b1 r.cells gU:=X;clear VJ;rintro aA Z VQ VK;obtain ⟨Q,Vy⟩:=bl VQ VK;obtain ⟨VG,Q,Vt⟩:∃ cs,av Z aA cs gU/\cs.length=r.cells.length:=⟨_,Q,rfl⟩;clear VK;have E:=VI.new Vy;have V4:=VI.size;have V5:=Vy.size;have V1:=X.lt;have V2:=Q.lt;have b:=ai.aj Vy X;cases F:t.bN with
 |inl c=>
  have l:r.Kind=3:=by rw [h.kind,F];rfl
  have Vw:e1.qg A z r.cZ c:=by have:=h.bN;rw [F] at this;exact this
  have j:t.told={ t with eK:=(d9 c t.a7).2.2,out:=.inl (d9 c t.a7).2.1 }:=by unfold b9.told;rw [F];rfl
  have V:conv.next (.inl c) t.a7=((d9 c t.a7).1,.inl (d9 c t.a7).2.1,(d9 c t.a7).2.2):=rfl;refine ⟨_,b.cell (i:=0) rfl,cR (by rw [l];rfl) (cR (by rw [l];rfl) (eB (by rw [l];rfl) ?_))⟩;refine dv.aS r.cZ ⟨bK b rfl,_,_,_,b.cell (i:=23) rfl,?_⟩;have p:ao A z Z:=ao.b3 E;have VL:e1.qg A Z r.cZ c:=Vw.az (A':=A) p λ_ _ e=>e
  have VS:=h.a7.az (A':=A) p λ_ _ e=>e
  have Vv:=L9 VL.at_ (λ_=>VL.lF) VS h.dQ h.gc;refine aC Vv ?_;rintro v bu ⟨aa,ac,cf,rfl,J,L,G,W⟩;refine ⟨_,_,_,bB.aS ⟨(d9 c t.a7).2.1.1,(d9 c t.a7).2.1.2⟩ ⟨(d9 c t.a7).2.2,rfl,?_⟩⟩;refine ea (vs:=bB.cells ⟨(d9 c t.a7).2.1.1,(d9 c t.a7).2.1.2⟩) rfl (bB.single _) λVF VN VR T B=>?_
  rintro Vr M;have g:ai VN Vr:=by rw [M];exact cD _
  clear M;have VU:=J.size;have VV:=B.size;have VW:=g.size;have a:=ai.aj g T;have d:=(J.new B).new g;have P:=ai.aj d b;have R:=ai.aj d Q;refine ⟨λy=>av y VF (bB.cells ⟨(d9 c t.a7).2.1.1,(d9 c t.a7).2.1.2⟩) eQ,a,_,λy D=>D.cell (i:=0) rfl,_,λy D=>D.cell (i:=1) rfl,?_⟩;refine kF P (i:=24) rfl λV6 VA f=>⟨f.aj a (by omega),?_⟩
  refine kF VA (i:=26) rfl λV7 VB x=>⟨x.aj (f.aj a (by omega)) (by omega),?_⟩
  refine kF VB (i:=32) rfl λu8 U I=>?_
  rintro Vs O;have C:ai u8 Vs:=by rw [O];exact cD _
  clear O;have s:ao (λk=>k=b1) Vr u8:=(f.trans x λ_ _ e=>e).trans I λ_ _ e=>e
  have U:av u8 b1 (ca.cells { r with kd:=(d9 c t.a7).2.2,Code:=(d9 c t.a7).2.1.1,iJ:=(d9 c t.a7).2.1.2 }) gU:=U;have VC:=ai.aj C U;have S:av Vs aA VG gU:=ai.aj C (s.aj R (by omega));have H:ao (λk=>k=b1) Vr Vs:=s.new C;refine ⟨λy=>ai Vs y,ao.refl _ _,ca.aS { r with kd:=(d9 c t.a7).2.2,Code:=(d9 c t.a7).2.1.1,iJ:=(d9 c t.a7).2.1.2 } ⟨λy D=>bK (ai.aj D VC) rfl,?_⟩⟩;refine dO S (by rw [Vt];rfl) (ca.single _) λVE VD Vx=>?_
  refine ca.aS { r with kd:=(d9 c t.a7).2.2,Code:=(d9 c t.a7).2.1.1,iJ:=(d9 c t.a7).2.1.2 } ⟨bK VD rfl,rfl,?_⟩;have w:ao (λk=>k=b1\/k=aA) Vr VE:=(H.mono λk _ e=>.inl e).trans (Vx.mono λk _ e=>.inr e) λ_ _ e=>e
  have K:ai z VE:=(E.new d).trans w λk VT e=>by omega
  have q:ao (λk=>k=b1\/k=aA) bu VE:=(ao.b3 (B.new g)).trans w λ_ _ e=>e
  refine ⟨K,aa,ac,cf,_,rfl,L.az q (g9 L λk l e=>by have:=G k l;omega),λk l=>by have:=G k l;omega,?_,?_⟩
  ·rw [V];exact W.az (q.mono λk _ e=>by show k<Z.heap.size;omega) λk _ e=>by show k<Z.heap.size;omega
  ·have n:=h.az (A':=A) (ao.b3 K) λ_ _ e=>e
   rw [j];exact ⟨n.kind,n.a3,rfl,n.bad,n.a7,n.dQ,n.gc,n.bN,⟨rfl,rfl⟩,n.len⟩
 |inr Y=>
  have l:r.Kind=4:=by rw [h.kind,F];rfl
  have Vw:qh A z r.Recover Y:=by have:=h.bN;rw [F] at this;exact this
  have j:t.told={ t with eK:=(fu Y t.a7).2.2,out:=.inr (fu Y t.a7).2.1 }:=by unfold b9.told;rw [F];rfl
  have V:conv.next (.inr Y) t.a7=((fu Y t.a7).1,.inr (fu Y t.a7).2.1,(fu Y t.a7).2.2):=rfl;refine ⟨_,b.cell (i:=0) rfl,cR (by rw [l];rfl) (cR (by rw [l];rfl) (cR (by rw [l];rfl) (eB (by rw [l];rfl) ?_)))⟩;refine dr.aS r.Recover ⟨bK b rfl,_,_,_,b.cell (i:=23) rfl,?_⟩;have p:ao A z Z:=ao.b3 E;have VL:qh A Z r.Recover Y:=Vw.az (A':=A) p λ_ _ e=>e
  have VS:=h.a7.az (A':=A) p λ_ _ e=>e
  refine aC (M_ VL.at_ VS h.dQ h.gc) ?_;rintro v bu ⟨aa,ac,cf,rfl,J,L,G,W⟩;generalize V3:fu Y t.a7=N at W j V;obtain ⟨V8,o,VM⟩:=N;refine ⟨_,_,_,dz.aS o ⟨VM,rfl,?_⟩⟩;refine ea (vs:=o.cells) rfl (dz.single _) λVF VN VR T B=>?_
  rintro Vr M;have g:ai VN Vr:=by rw [M];exact cD _
  clear M;have VU:=J.size;have VV:=B.size;have VW:=g.size;have T:av VN VF o.cells o6:=T;have a:=ai.aj g T;have d:=(J.new B).new g;have P:=ai.aj d b;have R:=ai.aj d Q;refine ⟨λy=>av y VF o.cells o6,a,_,λy D=>D.cell (i:=0) rfl,_,λy D=>D.cell (i:=1) rfl,_,λy D=>D.cell (i:=2) rfl,_,λy D=>D.cell (i:=3) rfl,?_⟩;have off:∀ {u bq:ak},ao (λk=>k=b1) u bq->av u VF o.cells o6->av bq VF o.cells o6:=λl V0=>l.aj V0 (by omega)
  refine kF P (i:=24) rfl λV6 VA f=>⟨off f a,?_⟩
  refine kF VA (i:=26) rfl λV7 VB x=>⟨off x (off f a),?_⟩
  refine kF VB (i:=33) rfl λu8 U I=>⟨off I (off x (off f a)),?_⟩
  refine kF U (i:=34) rfl λv1 VX Vu=>⟨off Vu (off I (off x (off f a))),?_⟩
  refine kF VX (i:=35) rfl λv2 Vz VH=>?_
  rintro Vs O;have C:ai v2 Vs:=by rw [O];exact cD _
  clear O;have s:ao (λk=>k=b1) Vr v2:=(((f.trans x λ_ _ e=>e).trans I λ_ _ e=>e).trans Vu λ_ _ e=>e).trans VH λ_ _ e=>e
  have Vz:av v2 b1 (ca.cells { r with kd:=VM,Code:=o.Code,jc:=o.jc,Seq:=o.Seq,i_:=o.i_ }) gU:=Vz;have VC:=ai.aj C Vz;have S:av Vs aA VG gU:=ai.aj C (s.aj R (by omega));have H:ao (λk=>k=b1) Vr Vs:=s.new C;refine ⟨λy=>ai Vs y,ao.refl _ _,ca.aS { r with kd:=VM,Code:=o.Code,jc:=o.jc,Seq:=o.Seq,i_:=o.i_ } ⟨λy D=>bK (ai.aj D VC) rfl,?_⟩⟩;refine dO S (by rw [Vt];rfl) (ca.single _) λVE VD Vx=>?_
  refine ca.aS { r with kd:=VM,Code:=o.Code,jc:=o.jc,Seq:=o.Seq,i_:=o.i_ } ⟨bK VD rfl,rfl,?_⟩;have w:ao (λk=>k=b1\/k=aA) Vr VE:=(H.mono λk _ e=>.inl e).trans (Vx.mono λk _ e=>.inr e) λ_ _ e=>e
  have K:ai z VE:=(E.new d).trans w λk VT e=>by omega
  have q:ao (λk=>k=b1\/k=aA) bu VE:=(ao.b3 (B.new g)).trans w λ_ _ e=>e
  refine ⟨K,aa,ac,cf,_,rfl,L.az q (g9 L λk l e=>by have:=G k l;omega),λk l=>by have:=G k l;omega,?_,?_⟩
  ·rw [V];exact W.az (q.mono λk _ e=>by show k<Z.heap.size;omega) λk _ e=>by show k<Z.heap.size;omega
  ·have n:=h.az (A':=A) (ao.b3 K) λ_ _ e=>e
   rw [j];exact ⟨n.kind,n.a3,rfl,n.bad,n.a7,n.dQ,n.gc,n.bN,⟨rfl,rfl,rfl,rfl⟩,n.len⟩
end g4
namespace g4
def Ce (o b1 aA:Nat) (z:ak) (R:cA):Prop:=
 ∃ (g:al) (dQ gc:Nat),z.cell? ⟨b1,23,none⟩=some (.slice g dQ gc)/\(bif (decide ((dQ:Int)>200)) then
  ((∃ u,z.cell? ⟨b1,24,none⟩=some u)/\z.frozen? ⟨b1,24,none⟩=false/\∀ d,d=z.setCell ⟨b1,24,none⟩ (.bool true)->(∃ u,d.cell? ⟨b1,25,none⟩=some u)/\d.frozen? ⟨b1,25,none⟩=false/\∀ f,f=d.setCell ⟨b1,25,none⟩ (.bool true)->
   ca.ex λx=>b6 f ⟨b1,0,none⟩ 0 x.cells/\eh f ⟨aA,0,none⟩ 0 x.cells/\∀ w',w'=ct f ⟨aA,0,none⟩ 0 x.cells->ca.ex λy=>b6 w' ⟨aA,0,none⟩ 0 y.cells/\w'=w'/\R y.val w')
  else (ca.ex λr=>b6 z ⟨b1,0,none⟩ 0 r.cells/\Calls prog 65 #[r.val] z λe n=>∃ (a:al) (c5 ac:Nat),ca.ex λj=>e=.returned (.tuple #[.slice a c5 ac,j.val])/\eh n ⟨b1,0,none⟩ 0 j.cells/\∀ b,b=ct n ⟨b1,0,none⟩ 0 j.cells->
   ∃ l:Bool,b.cell? ⟨b1,24,none⟩=some (.bool l)/\(bif (!l) then (∃ dj:Int,b.cell? ⟨b1,1,none⟩=some (.int .i64 dj)/\Calls prog 66 #[.pointer (some ⟨o,0,none⟩),.int .i64 dj,.slice a c5 ac] b λe c=>∃ k:Int,e=.returned (.int .i64 k)/\(bif (k != 0) then
     ((∃ u,c.cell? ⟨b1,24,none⟩=some u)/\c.frozen? ⟨b1,24,none⟩=false/\∀ h,h=c.setCell ⟨b1,24,none⟩ (.bool true)->(∃ u,h.cell? ⟨b1,25,none⟩=some u)/\h.frozen? ⟨b1,25,none⟩=false/\∀ i,i=h.setCell ⟨b1,25,none⟩ (.bool true)->
      ca.ex λx=>b6 i ⟨b1,0,none⟩ 0 x.cells/\eh i ⟨aA,0,none⟩ 0 x.cells/\∀ w',w'=ct i ⟨aA,0,none⟩ 0 x.cells->ca.ex λy=>b6 w' ⟨aA,0,none⟩ 0 y.cells/\w'=w'/\R y.val w')
     else (ca.ex λx=>b6 c ⟨b1,0,none⟩ 0 x.cells/\eh c ⟨aA,0,none⟩ 0 x.cells/\∀ w',w'=ct c ⟨aA,0,none⟩ 0 x.cells->ca.ex λy=>b6 w' ⟨aA,0,none⟩ 0 y.cells/\w'=w'/\R y.val w')))
    else (ca.ex λx=>b6 b ⟨b1,0,none⟩ 0 x.cells/\eh b ⟨aA,0,none⟩ 0 x.cells/\∀ w',w'=ct b ⟨aA,0,none⟩ 0 x.cells->ca.ex λy=>b6 w' ⟨aA,0,none⟩ 0 y.cells/\w'=w'/\R y.val w'))))
theorem DE {A:a5} {aw:Nat->Tag} {w z:ak} {aN b1 aA:Nat} {B:a5} {dq:Nat->Tag} {X:bQ} {r:eI} {t:b9 conv} (h:e' A aw w aN (λk=>k=b1\/k=aA) z B dq X) (s:b1≠aA) (c:av z b1 r.cells gU) {cs:ax} (n:av z aA cs gU) (o:cs.length=36) (D:gu (λk=>B k\/k=b1\/k=aA) z r t) :
  (∃ u,z.cell? ⟨b1,24,none⟩=some u)/\z.frozen? ⟨b1,24,none⟩=false/\∀ l,l=z.setCell ⟨b1,24,none⟩ (.bool true)->(∃ u,l.cell? ⟨b1,25,none⟩=some u)/\l.frozen? ⟨b1,25,none⟩=false/\∀ j,j=l.setCell ⟨b1,25,none⟩ (.bool true)->
   ca.ex λx=>b6 j ⟨b1,0,none⟩ 0 x.cells/\eh j ⟨aA,0,none⟩ 0 x.cells/\∀ w',w'=ct j ⟨aA,0,none⟩ 0 x.cells->ca.ex λy=>b6 w' ⟨aA,0,none⟩ 0 y.cells/\w'=w'/\rM A aw w aN (X.pure,t.fail) y.val w':=by
 refine ⟨⟨_,c.cell rfl⟩,c.frozen,?_⟩;rintro l f;have q:ao (λk=>k=b1) z l:=by rw [f];exact eV _ _ _ _
 have a:=c.setCell (i:=24) (.bool true);rw [<-f] at a;clear f;refine ⟨⟨_,a.cell rfl⟩,a.frozen,?_⟩;rintro j g;have d:ao (λk=>k=b1) z j:=by rw [g];exact q.setCell (.inl rfl) _
 have b:=a.setCell (i:=25) (.bool true);rw [<-g] at b;clear g;have b:av j b1 ({ r with kd:=true,oS:=true }:eI).cells gU:=b;refine rn b (d.aj n λe=>s e.symm) o λw' p=>?_
 exact vU (h.local d λ_ e=>.inl e) ((D.az (d.mono λ_ _ e=>.inr (.inl e)) λ_ _ C=>C).fail) p
theorem DF {A:a5} {aw:Nat->Tag} {w z:ak} {aN b1 aA:Nat} {B:a5} {dq:Nat->Tag} {X:bQ} {r:eI} {t:b9 conv} (h:e' A aw w aN (λk=>k=b1\/k=aA) z B dq X) (T:Good X.pure) (s:b1≠aA)
  (b:av z b1 r.cells gU) {cs:ax} (n:av z aA cs gU) (d:cs.length=36) (U:gu (λk=>B k\/k=b1\/k=aA) z r t) :
  Ce aN b1 aA z (rM A aw w aN (kH X.pure t)):=by
 unfold Ce kH;have Vs:=U.dQ;refine ⟨_,_,_,b.cell rfl,a' (λVr=>?_) (λVr=>?_)⟩
 ·rw [if_pos (by omega)];exact DE h s b n d U
 ·rw [if_neg (by omega)];refine ca.aS r ⟨bK b rfl,?_⟩;refine aC (Oh U (λk D=>h.cl.low k D)) ?_;rintro v Vw ⟨q,aa,ac,cf,K,rfl,G,C,V,f⟩;refine ⟨_,_,_,ca.aS K ⟨rfl,?_⟩⟩;have W:=b.lt;have Y:=n.lt;refine dO (vs:=K.cells) (ai.aj q b) rfl (ca.single K) λL a c=>?_
  have E:ao (λk=>k=b1) z L:=(ao.b3 q).trans c λ_ _ e=>e
  have M:=(h.new q).local c λ_ e=>.inl e
  have H:=f.az (A':=λk=>B k\/k=b1\/k=aA) (c.mono λ_ _ e=>.inr (.inl e)) λ_ _ P=>P
  have j:av L aA cs gU:=E.aj n λe=>s e.symm
  have l:bh L aa (dP cf).flatten:=G.az c (g9 G λk D e=>by have:=C k D;omega);refine ⟨_,a.cell rfl,er (λS=>?_) (λS=>?_)⟩
  ·have u:(conv.next t.bN t.a7).2.2=false:=by rw [<-S];exact f.eK.symm
   rw [if_neg (by rw [u];simp)];refine ⟨_,a.cell rfl,?_⟩;have F:((dP cf).flatten=[])\/gd (λk=>B k\/k=b1\/k=aA) aa:=g9 l λk D e=>by have N:=C k D;have Vv:=h.cl.low k e;omega
   have J:en (λk=>B k\/k=b1\/k=aA) L cf (conv.next t.bN t.a7).1:=V.az (c.mono λk _ e=>by show k<z.heap.size;omega) λk _ P=>h.cl.low k P
   have Q:K.Client=t.a3:=f.a3;rw [Q];refine aC (NV M.cl T.ok t.a3 (lcap:=ac) l F J) ?_;rintro v Z ⟨rfl,Vt⟩;obtain ⟨B',Vx,Vu,N,y,_,R,O,x⟩:=M.op Vt;have g:av Z b1 K.cells gU:=(x b1 (.inl rfl)).trans a;have i:av Z aA cs gU:=(x aA (.inr rfl)).trans j;have I:=H.az (A':=λk=>B' k\/k=b1\/k=aA) R O;refine ⟨_,rfl,dw (λo=>?_) (λo=>?_)⟩
   ·rw [if_pos o,<-y];exact DE N s g i d I
   ·rw [if_neg (λe=>e o)];refine rn g i d λw' p=>?_
    rw [<-y];exact vU N I p
  ·have u:(conv.next t.bN t.a7).2.2=true:=by rw [<-S];exact f.eK.symm
   rw [if_pos u];refine rn a j d λw' p=>?_
   exact vU M H p
theorem DG {A:a5} {aw:Nat->Tag} {w:ak} {aN:Nat} {X:bQ} (h:bZ A aw w aN X) (M:Good X.pure) {r:eI} {t:b9 conv} (VA:gu A w r t) (Vz:lU t) :
  a_ 34 [ptr aN,r.val] w (rM A aw w aN (cV X.pure t)):=by
 refine bc Tryz.func34 ?_;rw [ptr,T3];rintro b1 w1 Y P aA S Z Q;obtain ⟨E,L⟩:=bl Y P;obtain ⟨p,C⟩:=bl Z Q;have a:av S b1 r.cells gU:=ai.aj C E;have VI:=E.lt;have VB:=L.size;have VJ:=p.lt;have VC:=C.size;clear P Q E;have x:=L.new C;have D:b1≠aA:=by omega
 have H:e' A aw w aN (λk=>k=b1\/k=aA) S A aw X:=e'.start h x λk VM=>by omega
 have N:gu (λk=>A k\/k=b1\/k=aA) S r t:=VA.az (ao.b3 x) λk VG R=>by
  rcases R with R | R
  ·exact R
  ·omega
 have c:∀ w',ao (λk=>k=aA) S w'->rM A aw w aN (X.pure,t) r.val w':=λw' Vu=>vU H N Vu
 unfold cV;have B:r.Client=t.a3:=VA.a3;refine ⟨_,a.cell rfl,?_⟩;rw [VA.eK];cases Vy:t.eK with
 |true=>refine eB rfl ?_;rw [if_pos (.inl rfl)];exact rn a p rfl c
 |false=>
  refine cR rfl ?_;refine ⟨_,a.cell rfl,?_⟩;rw [B];refine aC (C6 H.cl _) ?_;rintro v VN ⟨rfl,rfl⟩;refine ⟨_,rfl,er (λV=>?_) (λV=>?_)⟩
  ·rw [if_pos (.inr (.inl V))];exact rn a p rfl c
  refine ⟨_,a.cell rfl,?_⟩;rw [B];refine aC (Jf H.cl _) ?_;rintro v VO ⟨rfl,rfl⟩;refine ⟨_,rfl,a' (λhw=>?_) (λhw=>?_)⟩
  ·rw [if_pos (.inr (.inr (by omega)))];exact rn a p rfl c
  rw [if_neg (by rw [V];simp;omega)];refine ⟨_,a.cell rfl,?_⟩;rw [B];refine aC (NT H.cl _) ?_;rintro v VD VH;obtain ⟨B',VP,VE,T,I,j,Vv,U,G⟩:=H.op VH;have l:av VD b1 r.cells gU:=(G b1 (.inl rfl)).trans a;have u:=(G aA (.inr rfl)).trans p;have s:=N.az (A':=λk=>B' k\/k=b1\/k=aA) Vv U;have y:Good VE.pure:=by rw [I];exact M.take _
  have O:∀ ds,(X.pure.take t.a3).1=some ds->ds.length<=1024:=λds=>Lf M
  have hlen:=Vz Vy;rw [<-I];generalize (X.pure.take t.a3).1=VK at j O ⊢;cases VK with
  |none=>have j:v=.tuple #[.slice none 0 0,.bool false]:=j;subst j;refine ⟨_,_,_,_,rfl,cR rfl ?_⟩;exact DF T y D l u rfl s
  |some ds=>
   obtain ⟨b,raw,rfl,Vr,K,Vx⟩:=j;refine ⟨_,_,_,_,rfl,eB rfl ?_⟩;refine ⟨_,_,_,l.cell rfl,?_⟩;rw [s.dQ];refine Lg s.a7 (by omega) Vr K Vx (O ds rfl) T.cl.low (by rw [K.1]) ?_;intro VL ap cap z VF Vt J q;have n:=ai.aj q l;refine ⟨⟨_,n.cell rfl⟩,n.frozen,?_⟩;rintro F o;have f:ao (λk=>k=b1) z F:=by rw [o];exact eV _ _ _ _
   have d:=n.setCell (i:=23) (.slice ap (t.a7.length+1) cap);rw [<-o] at d;clear o;have d:av F b1 ({ r with qe:=ap,o3:=t.a7.length+1,qf:=cap }:eI).cells gU:=d;refine DF ((T.new q).local f λ_ e=>.inl e) y D d (f.aj (ai.aj q u) λe=>D e.symm) rfl ?_;have Vw:ao (λk=>B' k\/k=b1\/k=aA) VD F:=(ao.b3 q).trans f λ_ _ e=>.inr (.inl e)
   have g:=s.az (A':=λk=>B' k\/k=b1\/k=aA) Vw λ_ _ W=>W
   have Vs:(t.a7++[ds]).length=t.a7.length+1:=by simp
   exact ⟨g.kind,g.a3,g.eK,g.bad,Vt.az (f.mono λ_ _ e=>.inr (.inl e)) λ_ _ W=>W,Vs.symm,J,g.bN,g.out,by show (t.a7++[ds]).length<=201;omega⟩
end g4
end Go.Proofs.YtmkljjbioomepaaGreat
