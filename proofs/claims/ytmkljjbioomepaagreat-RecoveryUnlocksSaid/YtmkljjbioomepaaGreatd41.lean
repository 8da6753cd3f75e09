import Derived.Test.YtmkljjbioomepaaGreatd25
import Derived.Test.YtmkljjbioomepaaGreatd13
import Derived.Test.YtmkljjbioomepaaGreatd40
import Derived.Test.YtmkljjbioomepaaGreatd34
set_option linter.all false
set_option maxHeartbeats 4000000
set_option maxRecDepth 100000
namespace Go.Proofs.YtmkljjbioomepaaGreat
open Go.Proofs.Tryz Go.bs
section
theorem L9:Go.jb.kZ prog 8 eu=some [false,false,false,false,false,false,false,false,false]:=by kernel_rfl
theorem O3:gU prog eu=true:=by kernel_rfl
theorem KR:Program.eqGuardType prog (Program.depth prog) eu=false:=by kernel_rfl
theorem GT (r:aK) {K:Bool->Prop} (d:K true):rW prog eu r.val r.val K:=by
 refine ⟨true,λw=>?_,d⟩
 have c:Go.jb.j4 [false,false,false,false,false,false,false,false,false] r.cells r.cells:=⟨rfl,rfl,rfl,rfl,rfl,rfl,rfl,rfl,rfl,trivial⟩;have he:Go.jb.hi r.cells r.cells=true:=by simp [aK.cells,Go.jb.hi,Go.jb.qL]
 have b:=Go.jb.wk 8 eu _ L9 10000 (by omega) r.cells r.cells c w;unfold Go.jb.lM at b;rw [if_pos O3,he] at b;have a:(Op.equalIn 10000 eu (.agg r.cells.toArray) (.agg r.cells.toArray)).run prog w=.ok true w:=b;exact ⟨λop x y=>run_eqGuard_agg w op eu x y _ _ KR,by rw [aK.val,run_eql_struct,a];rfl,by rw [aK.val,run_neq_struct,a];rfl⟩
theorem I3 (l:List aK) (p:aK):(ia (l++[p])).flatten=(ia l).flatten++p.cells:=by simp [ia]
theorem O4 {u:ak} {a:an} {n cap:Nat} {L:List aK} (i:a1 u eu 9 a n cap (ia L).flatten) {p:aK} (o:n<=1000000) {K:Nat->an->Nat->Nat->aF}
  (s:∀ b ap e g,b=u.heap.size->a1 g eu 9 ap (n+1) e (ia (L++[p])).flatten->ao (aL a) u g->(∀ k,aL ap k->aL a k\/u.heap.size<=k)->K b ap (n+1) e g) :
  ∀ b1 j,b1=u.heap.size->j=u.alloc (.cells p.cells.toArray eu)->∃ (ap:an) (d c:Nat),∃ g,(Builtin.append_ #[37,37] 37 #[(.slice a n cap),(.slice (some ⟨b1,0,none⟩) 1 1)]).run prog j=.ok (.slice ap d c) g/\K b1 ap d c g:=by
 obtain ⟨inf,r,au,f,q⟩:=fV (T:=eu) (z:=.agg #[.int .i64 0,.int .u64 0,.int .u64 0,.int .u64 0,.int .u64 0,.int .u64 0,.int .u64 0,.int .u64 0,.int .u64 0]) (n:=9) (m:=72) (by kernel_rfl);rw [<-f] at i;refine oI Tryz.underlying37 r au (by rw [f];rfl) (by omega) i (by rw [f];rfl) (aK.single p) (by omega) (by omega) ?_;intro b ap e g l h;rw [f,<-I3] at h;exact s b ap e g l h
theorem tf {n i:Nat} (h:i<n):(stM n)[i]?=some ⟨(i:Int),1,true⟩:=by simp [stM,h]
theorem CB (w:ak) (c:Int):bb 41 [.int .i64 c] w λv w'=>v=.bool (decide (0<=c/\c<6))/\w'=w:=by
 refine bd Tryz.func41 ?_;rw [V5];refine bc (λh=>⟨?_,rfl⟩) (λh=>⟨?_,rfl⟩)
 ·have h:0<=c:=h;congr 1;simp [h]
 ·have h:¬ 0<=c:=h;congr 1;simp [h]
theorem Ec (w:ak) {i:Nat} (a:i<6):bb 49 [.int .i64 i] w λv w'=>v=.int .i64 (32+i:Nat)/\w'=w:=by refine bd Tryz.func49 ?_;rw [Wk];refine aD (CB w (i:Int)) ?_;rintro v u ⟨rfl,rfl⟩;refine ⟨_,rfl,di (by simp;omega) ⟨?_,rfl⟩⟩;rw [bH (by omega) (by omega)];congr 1
theorem EX (w:ak) {i:Nat} (a:i<6):bb 50 [.int .i64 i] w λv w'=>v=.int .i64 (24+i:Nat)/\w'=w:=by refine bd Tryz.func50 ?_;rw [Wv];refine aD (CB w (i:Int)) ?_;rintro v u ⟨rfl,rfl⟩;refine ⟨_,rfl,di (by simp;omega) ⟨?_,rfl⟩⟩;rw [bH (by omega) (by omega)];congr 1
structure Dn (a b:aN) (lines:Nat):Prop where
 up:b.down=false
 dx:∀ l,96<=l->l<lines->a.dx l=b.dx l/\a.get (l * 8) % 256=0
 clock:∀ c,c<6->a.get (32+c)=b.get (32+c)/\a.get (24+c)=b.get (24+c)
structure Dp (X:bR) (n lines:Nat):Prop where
 len:X.nodes.length=n
 eq:∀ (i:Nat) (x ve:hF),X.nodes[i]?=some x->X.nodes[0]?=some ve->Dn ve.n x.n lines
 xO:∀ (i:Nat) (x:hF),X.nodes[i]?=some x->lines * 8<=x.n.words.length
 eB:lines<=256
 many:98<=lines
theorem L_ {A:a6} {aw:Nat->Tag} {w:ak} {aJ:Nat} {X:bR} (h:b6 A aw w aJ X) {i:Nat} {x:hF} (d:X.nodes[i]?=some x) {q:Nat} (e:x.n.get q % 256=0):fG .u64 (x.n.get q) 255=0:=by obtain ⟨b,c⟩:=(h.node i x d).node.Ba q;have a:fG .u64 (x.n.get q) ((2 ^ 8 - 1:Nat):Int)=x.n.get q % (2 ^ 8:Nat):=Bm b c 8 (by omega);have a:fG .u64 (x.n.get q) 255=x.n.get q % 256:=a;rw [a,e]
theorem O5 {A:a6} {aw:Nat->Tag} {w:ak} {aJ:Nat} {X:bR} (h:b6 A aw w aJ X) {n lines:Nat} (D:Dp X n lines) {a:an} {S:Nat} (H:bk w a (gw (stM n)).flatten) (XI:n<=5) :
  bb 27 [ptr aJ,.slice a n S,.int .i64 lines] w λv u=>v=.bool true/\ai w u:=by
 have Xv:=D.eB;have XC:=D.many;refine bd Tryz.func27 ?_;rw [ptr,Wu];refine c8 mix (λq env z=>∃ (i:Nat) (I:ax),q=n - i/\i<=n/\env=xr ⟨aJ,0,none⟩ a n S lines i I/\ai w z) n ⟨0,_,rfl,by omega,rfl,ao.refl _ _⟩ ?_;rintro q env z ⟨i,I,rfl,XN,rfl,Xw⟩;rw [TG];refine bc (λXH=>?_) (λXG=>?_)
 rotate_left
 ·rw [UP];exact ⟨rfl,Xw⟩
 have g:i<n:=by omega
 obtain ⟨x,Q⟩:∃ x,X.nodes[i]?=some x:=⟨_,bE (by rw [D.len];exact g)⟩;obtain ⟨G,f⟩:∃ x,X.nodes[0]?=some x:=⟨_,bE (by rw [D.len];omega)⟩;have e:=D.eq i x G Q f;have T:=D.eq 0 G G f f;have U:=D.xO i x Q;have R:=D.xO 0 G f;refine c8 mix (λq env z=>∃ (l:Nat) (I:ax),q=lines - l/\96<=l/\l<=lines/\env=xA ⟨aJ,0,none⟩ a n S lines i l I/\ai w z) (lines - 96) ⟨96,_,rfl,by omega,by omega,rfl,Xw⟩ ?_;rintro q env XQ ⟨l,XJ,rfl,K,XO,rfl,t⟩;rw [TH];refine bc (λd=>?_) (λd=>?_)
 ·have d:l<lines:=by omega
  refine eI (cells:=a0.cells) a0.len (by omega) (H.new t) (tf (i:=0) (by omega)) rfl (pQ n).symm λb o _ k=>⟨_,k 0 _ rfl,?_⟩
  refine aD (tK (h.new t) f (l:=l) (by omega) (by omega) T.up) ?_;rintro v bG ⟨rfl,B⟩;refine aK.aT (G.n.dx l) ⟨true,rfl,?_⟩;refine ec (vs:=(G.n.dx l).cells) rfl (aK.single _) λb1 XL XD Y s=>?_
  have r:=(t.new B).new s;refine eI (cells:=a0.cells) a0.len (by omega) (H.new r) (tf (i:=i) g) rfl (pQ n).symm λb o _ k=>⟨_,k 0 _ rfl,?_⟩
  refine aD (tK (h.new r) Q (l:=l) (by omega) (by omega) e.up) ?_;rintro v bq ⟨rfl,C⟩;refine aK.aT (x.n.dx l) ⟨true,rfl,?_⟩;refine ec (vs:=(x.n.dx l).cells) rfl (aK.single _) λaB XM XE Z j=>?_
  have E:=ai.aj (C.new j) Y;refine di rfl (di rfl ?_);refine aK.aT (G.n.dx l) ⟨bO E rfl,aK.aT (x.n.dx l) ⟨bO Z rfl,?_⟩⟩;rw [<-(e.dx l K d).1];refine GT _ (di rfl ⟨_,E.cell (i:=1) rfl,du (λJ=>absurd (L_ h f (e.dx l K d).2) J) λ_=>?_⟩)
  rw [bH (x:=(l:Int)+1) (by omega) (by omega)];exact ⟨lines - (l+1),by omega,l+1,_,rfl,by omega,by omega,rfl,(r.new C).new j⟩
 ·rw [UQ];refine c8 mix (λq env z=>∃ (c:Nat) (I:ax),q=6 - c/\c<=6/\env=xB ⟨aJ,0,none⟩ a n S lines i c I/\ai w z) 6 ⟨0,_,rfl,by omega,rfl,t⟩ ?_;rintro q env XR ⟨c,XK,rfl,XF,rfl,B⟩;rw [TI];refine bc (λd=>?_) (λd=>?_)
  ·have d:c<6:=by omega
   obtain ⟨XA,XB⟩:=e.clock c d;rintro w1 M;have s:ai w w1:=by rw [M];exact B.new (cK _)
   clear M;refine ⟨λy=>ai w1 y,ao.refl _ _,jj (cells:=a0.cells) a0.len (by omega) (H.new s) (tf (i:=0) (by omega)) rfl (pQ n).symm λb o k=>⟨_,λu hu=>k u hu 0 _ rfl,?_⟩⟩;refine aD (Ec _ d) ?_;rintro v u ⟨rfl,rfl⟩;refine ⟨_,rfl,ao.refl _ _,?_⟩;refine aD (v7 (h.new s) f (at_:=32+c) (by omega) T.up) ?_;rintro v XL ⟨rfl,C⟩;refine ⟨_,_,rfl,?_⟩;rintro Xx N;have j:ai w Xx:=by rw [N];exact (s.new C).new (cK _)
   clear N;refine ⟨λy=>ai Xx y,ao.refl _ _,jj (cells:=a0.cells) a0.len (by omega) (H.new j) (tf (i:=i) g) rfl (pQ n).symm λb o k=>⟨_,λu hu=>k u hu 0 _ rfl,?_⟩⟩;refine aD (Ec _ d) ?_;rintro v u ⟨rfl,rfl⟩;refine ⟨_,rfl,ao.refl _ _,?_⟩;refine aD (v7 (h.new j) Q (at_:=32+c) (by omega) e.up) ?_;rintro v bq ⟨rfl,V⟩;refine ⟨_,_,rfl,?_⟩;rintro Xy O;have F:ai w Xy:=by rw [O];exact (j.new V).new (cK _)
   clear O;refine ⟨λy=>ai Xy y,ao.refl _ _,jj (cells:=a0.cells) a0.len (by omega) (H.new F) (tf (i:=0) (by omega)) rfl (pQ n).symm λb o k=>⟨_,λu hu=>k u hu 0 _ rfl,?_⟩⟩;refine aD (EX _ d) ?_;rintro v u ⟨rfl,rfl⟩;refine ⟨_,rfl,ao.refl _ _,?_⟩;refine aD (v7 (h.new F) f (at_:=24+c) (by omega) T.up) ?_;rintro v XM ⟨rfl,W⟩;refine ⟨_,_,rfl,?_⟩;rintro Xz P;have p:ai w Xz:=by rw [P];exact (F.new W).new (cK _)
   clear P;refine ⟨λy=>ai Xz y,ao.refl _ _,jj (cells:=a0.cells) a0.len (by omega) (H.new p) (tf (i:=i) g) rfl (pQ n).symm λb o k=>⟨_,λu hu=>k u hu 0 _ rfl,?_⟩⟩;refine aD (EX _ d) ?_;rintro v u ⟨rfl,rfl⟩;refine ⟨_,rfl,ao.refl _ _,?_⟩;refine aD (v7 (h.new p) Q (at_:=24+c) (by omega) e.up) ?_;rintro v XP ⟨rfl,L⟩;refine ⟨_,_,rfl,di rfl (di rfl (di rfl (di rfl (du (λJ=>absurd XA J) λ_=>du (λJ=>absurd XB J) λ_=>?_))))⟩
   rw [bH (x:=(c:Int)+1) (by omega) (by omega)];exact ⟨6 - (c+1),by omega,c+1,_,rfl,by omega,rfl,p.new L⟩
  ·rw [UR];rw [bH (x:=(i:Int)+1) (by omega) (by omega)];exact ⟨n - (i+1),by omega,i+1,_,rfl,by omega,rfl,B⟩
end
section
open e7
def wy (x q:Nat):Bool:=(x+1) / 2 ^ q % 2 == 1
def mD (x i:Nat):cT:=((List.range i).filter (wy x)).map (96+·)
def fj (x:Nat):cT:=mD x 4
def bp (l:cT):a8:=l.map Int.ofNat
theorem HH (x i:Nat):mD x (i+1)=mD x i++(if wy x i=true then [96+i] else []):=by unfold mD;rw [ku,BG,jn];congr 1;cases h:wy x i<;>simp [h]
theorem JY:∀ x,x<14->∀ i,i<4->(fG .i64 (df .i64 (((x+1:Nat):Int)) ((i:Nat):Int)) 1 == 1)=wy x i:=by decide
theorem Bi {x l:Nat} (h:l ∈ fj x):96<=l/\l<100:=by simp only [fj,mD,cZ,tp,fs] at h;obtain ⟨q,⟨a,_⟩,rfl⟩:=h;omega
theorem I4 (x i:Nat):(mD x i).length<=i:=by unfold mD;rw [fZ];exact lE (vA _ _) (by simp)
theorem A9:∀ y,y<14->1<=(fj y).length/\(fj y).length<=3:=by decide
def jO (l:Nat):aK:=⟨l,256,1,0,0,0,0,0,0⟩
def u5 (n y:Nat):c0:=⟨0,1,101,ro n,[],(fj y).map jO⟩
def gF (n y:Nat):Env:=⟨n,101,tU,λ_=>0,[0],λ_=>u5 n y,false⟩
theorem JZ:∀ n,n<3->∀ y,y<14->(u5 (n+1) y).valid=0:=by decide +kernel
theorem J0:∀ y,y<14->fH 1 ((fj y).map jO) 101=0:=by decide +kernel
theorem PA:eK 256 0≠lB 256:=by decide
theorem rl {n y:Nat} {p:aK}:p ∈ bM (gF n y)↔∃ l,l ∈ fj y/\p=jO l:=by show p ∈ (fj y).map jO↔_;rw [cZ];exact ⟨λ⟨l,a,b⟩=>⟨l,a,b.symm⟩,λ⟨l,a,b⟩=>⟨l,a,b.symm⟩⟩
theorem wz {n y:Nat} (h:1<=n/\n<=3) (b:y<14):cg (gF n y):=by
 have al:(u5 n y).valid=0:=by have:=JZ (n - 1) (by omega) y b;rw [show n - 1+1=n by omega] at this;exact this
 have c:=A9 y b;have g:ey (gF n y) 0 ((gF n y).a9 0):=ey.TK al rfl (by omega) rfl rfl (λe=>by have e:(fj y).map jO=[]:=e;have:=congrArg List.length e;rw [fZ] at this;simp at this;rw [this] at c;simp at c) (λp a=>by obtain ⟨l,_,rfl⟩:=rl.1 a;rfl) (λs j=>by cases j)
 refine ⟨⟨⟨h.1,by show n<=5;omega⟩,⟨by show 98<=101;omega,by show 101<=256;omega⟩,by show ([0]:cT).Nodup;simp,λi f=>?_⟩,rfl,rfl,λp a=>?_,J0 y b,λp a x d=>?_,λp a=>?_,⟨by show (0:Int)<=0;omega,by show (0:Int)<1;omega⟩,λl _ _=>rfl⟩
 ·have:i ∈ ([0]:cT):=f;simp at this;subst this;exact g
 ·obtain ⟨l,_,rfl⟩:=rl.1 a;exact PA
 ·obtain ⟨l,_,rfl⟩:=rl.1 a;simp [hz,jO] at d;rcases d with rfl | rfl<;>exact ⟨by omega,by omega⟩
 ·obtain ⟨l,_,rfl⟩:=rl.1 a;exact ⟨by show (0:Int)<=256;omega,by show (256:Int)<_;omega⟩
def lL:bu:=⟨λ_ _=>0,λ_=>false,λ_=>false,λ_=>false,λ_=>false,0⟩
def Es (n:Nat):Bool:=(fmt 101 n).getD 48 0 == 0 && (fmt 101 n).getD 49 0 == 0
theorem yk {n:Nat} (a:1<=n/\n<=3):vi n 101=true/\Es n=true:=by
 obtain rfl | rfl | rfl:n=1\/n=2\/n=3:=by omega
 all_goals exact ⟨by kernel_rfl,by kernel_rfl⟩
theorem L' {n y k:Nat} (B:1<=n/\n<=3) (J:y<14) (r:4<=k/\k<=6):gQ (gF n y) [] (aE.fresh n k 101) lL ⟨8,hn⟩ λ_=>nF 12:=by
 obtain ⟨h,hm⟩:=yk B;simp only [vi,ep,fE,fs,beq_iff_eq] at h;obtain ⟨u,w,A,o,t⟩:=h;simp only [Es,ep,beq_iff_eq] at hm;have E:∀ (m:Nat) (x:aN),(aE.fresh n k 101).nodes[m]?=some x->x=⟨fmt 101 n,false⟩:=λm x e=>by have e:=b5 e;exact (yR.1 e).2
 have f:∀ (i:Nat) (C:bh),(aE.fresh n k 101).aR[i]?=some C->kr n C/\C.batch=none/\hE C:=λi C e=>by
  have e:=b5 e;obtain ⟨q,I,rfl⟩:=cZ.1 e;have g:∀ (k:Nat) (l:cA),(hl n q).az[k]?=some l->l.pair.a3=[]/\l.pair.words=[]:=λk l a=>by have a:=b5 a;unfold hl jP at a;simp only at a;obtain ⟨z,au,rfl⟩:=cZ.1 a;exact ⟨rfl,rfl⟩
  refine ⟨⟨rfl,rfl,by simp [hl,jP],λk l a v e0 e _=>?_⟩,rfl,λk l a=>(g k l a).1⟩;rw [(g k l a).1] at e;cases e
 have s:(aE.fresh n k 101).aR[0]?=some (hl n 0):=by show ((List.range k).map (hl n))[0]?=_;rw [dS,j6 (by omega)];rfl
 have j:∀ m,Mem (gF n y) lL m ⟨fmt 101 n,false⟩:=λm=>by
  refine ⟨⟨rfl,u,w,A,(o 0 (by omega)).1,λc _ b=>(o c b).1⟩,λp D=>?_,λl c9 l2 _ k r=>?_,λc _ b=>(o c b).2,(o 0 (by omega)).2,hm.1,λ_=>hm.2,λe=>by cases e⟩
  ·obtain ⟨l,a,rfl⟩:=rl.1 D;obtain ⟨c9,l2⟩:=Bi a;show ∀ k,k<8->_;intro k r;have:=t (l - 96) (by omega) k r;rw [show l - 96+96=l by omega] at this;exact this
  ·have l2:l<101:=l2;have:=t (l - 96) (by omega) k r;rw [show l - 96+96=l by omega] at this;exact this
 obtain ⟨F,G,H⟩:=f 0 _ s;refine ⟨cd.fresh (by omega) (by omega) (by omega),rfl,rfl,by simp [aE.fresh];omega,⟨by show (aE.fresh n k 101).nodes.length=n;simp [aE.fresh],λm x e=>by rw [E m x e];exact j m⟩,?_,.inl rfl,⟨_,s,F,λe=>by have:8<=4:=e;omega,λ_=>⟨G,H⟩⟩,trivial,(λq d e=>by cases e),λ_=>⟨λ_ _=>rfl,λ_ _=>rfl,λ_ _ _ _=>rfl⟩,λc b=>(by cases b),λc b=>(by cases b),λ⟨p,_,e⟩=>by have:(0:Nat)=1:=e;omega,λ_ _=>rfl,λc C _ _ e=>f c C e⟩;have no:∀ {P:Prop},false=true->P:=λh=>by cases h
 exact ⟨λm _ p _=>⟨by show 0<=2;omega,λ_=>by show (0:Nat)≠1;omega⟩,λm _ e=>no e,λm _ p _ e=>(by have:(0:Nat)=2:=e;omega),λm _ e=>no e,λp _ e=>(by have:(0:Nat)=2:=e;omega),λe=>no e,λm _ _ e=>no e⟩
theorem gQ.join {E:Env} {F:aE} {A:bu} {g:f7} {gr:Nat->c5} (h:gQ E [] F A g gr) {rs:cT} (i:∀ c ∈ rs,1<=c/\c<4):gQ E rs F A g λ_=>nF 12:=by
 have b:∀ {P:Prop},(12:Nat)<=9->P:=λh=>by omega
 refine ⟨h.fl,h.lines,h.gX,h.qF,h.rep,h.law,?_,h.cB,h.q0,h.u1,h.xU,λc a=>?_,λc a=>⟨trivial,⟨λe=>by have:12<=7:=e.2;omega,λe=>by have:12=8:=e;omega⟩,(λq d e=>by cases e),cY _⟩,h.uM,(λ_=>h.op λc f=>by cases f),λc C k p l=>h.rest c C k (by simp) l⟩
 ·rcases h.u6 with e | ⟨c,f,_⟩
  ·exact .inl e
  ·cases f
 ·have:=i c a;have r:=h.qF;obtain ⟨C,j⟩:∃ C,F.aR[c]?=some C:=⟨_,bE (by omega)⟩;obtain ⟨r1,n,o⟩:=h.rest c C (by omega) (by simp) j;exact ⟨C,j,r1,λe=>b e,λ_=>⟨n,o⟩⟩
theorem Eo {n:Nat}:∀ {ls:List cA} {j:Nat},(∀ (i:Nat) (l:cA),ls[i]?=some l->l.pair.node=((j+i:Nat):Int))->((((ls.map cA.pair).filter λp=>decide (0<p.a3.length)).map λp=>p.node.toNat)).Pairwise (·<·)/\∀ q ∈ (((ls.map cA.pair).filter λp=>decide (0<p.a3.length)).map λp=>p.node.toNat),j<=q
 | [],j,h=>by simp
 |l::ls,j,h=>by
  obtain ⟨d,b⟩:=Eo (n:=n) (ls:=ls) (j:=j+1) λi l' f=>by have:=h (i+1) l' (by simpa using f);rw [this];omega
  have c:=h 0 l rfl;by_cases al:0<l.pair.a3.length
  ·rw [gj,List.filter_cons_of_pos (by simpa using al),gj];refine ⟨Bz.2 ⟨λq a=>?_,d⟩,λq a=>?_⟩
   ·have:=b q a;rw [c];omega
   ·rcases eU.1 a with e | e
    ·rw [e,c];omega
    ·have:=b q e;omega
  ·rw [gj,List.filter_cons_of_neg (by simpa using al)];exact ⟨d,λq a=>by have:=b q a;omega⟩
theorem gQ.die {E:Env} {rs:cT} {F:aE} {A:bu} {g:f7} {gr:Nat->c5} (h:gQ E rs F A g gr):∃ cy,F.die ((0:Nat):Int)=(true,cy)/\gm cy F:=by
 obtain ⟨C,d,t,_⟩:=h.cB;have b:=h.fl.b8.ok.aW 0 C d;have o:=b3 d;refine ⟨{ F with bU:=F.bU++(C.az.map cA.pair).filter (λp=>decide (0<p.a3.length)),aR:=F.aR.set 0 { C with alive:=false,az:=[],batch:=none,waiting:=0 } },?_,.inr ⟨rfl,rfl,λk u=>gN λe=>u e.symm,λC' a=>?_,λp s=>?_,?_⟩⟩
 ·unfold aE.die;rw [h9,d];simp only;rw [if_neg (by rw [t.live];simp),fD]
 ·simp only [g5 o] at a;cases a;rfl
 ·simp only [h.gX,m2] at s;obtain ⟨q,c⟩:=tp.1 s;obtain ⟨l,f,rfl⟩:=cZ.1 q;obtain ⟨j,r⟩:=ei.1 f;have w:=(b.lane j l r).node;refine ⟨C,l,d,by rw [w];simpa using r,rfl,λe=>?_⟩
  rw [e] at c;simp at c
 ·simp only [h.gX,m2];exact ((Eo (n:=0) (ls:=C.az) (j:=0) λi l f=>by rw [(b.lane i l f).node];omega).1).imp λh=>by omega
def AN (b:Bool) (l:Nat):aK:=if b=true then ⟨l,512,1,0,0,0,0,0,0⟩ else ⟨l,256,0,0,0,0,0,0,0⟩
structure zp (n y:Nat) (b:Bool) (nodes:List aN):Prop where
 len:nodes.length=n
 up:∀ (m:Nat) (x:aN),nodes[m]?=some x->x.down=false/\x.words.length=808
 dx:∀ (m:Nat) (x:aN),nodes[m]?=some x->∀ l,96<=l->l<101->x.dx l=AN (b && (fj y).contains l) l
 same:∀ (m:Nat) (x:aN),nodes[m]?=some x->∀ c,c<6->x.get (24+c)=(if c=0 then 2 else 1)/\x.get (32+c)=if b=true/\c=0 then 1 else 0
theorem MT:lB 256=512:=by decide
theorem Et {n y:Nat} (H:1<=n/\n<=3) (I:y<14) {A:bu} {nodes:List aN} (g:jM (gF n y) A nodes) (r:e8 (gF n y) A) (aq:jq (gF n y) A) {b:Bool} (s:if b=true then oa (gF n y) A else r0 (gF n y) A):zp n y b nodes:=by
 have ay:=wz H I;have q:∀ {m:Nat} {x:aN},nodes[m]?=some x->m<n:=λ{m x} a=>by have:=b3 a;rw [g.len] at this;exact this
 have B:∀ m,m<n->∀ p ∈ bM (gF n y),A.bV m (br p)=if b=true then 2 else 0:=λm hm p f=>by
  cases b with
  |true=>
   have d:oa (gF n y) A:=s;show A.bV m (br p)=2;by_cases e:m=0
   ·subst e;exact d.2.2 p f
   ·exact r.ld m (by omega) hm (r.k' d.2.1 m (by omega) hm) p f
  |false=>
   have d:r0 (gF n y) A:=s;show A.bV m (br p)=0;by_cases e:m=0
   ·subst e;exact d.2.2 p f
   ·have G:=r.cN m hm p f;have D:=G.2 (by omega);have E:A.bV m (br p)≠2:=λF=>by have:=r.iM m hm p f F 0 (by show 0<n;omega);rw [d.2.1 0 (by show 0<n;omega)] at this;cases this
    omega
 have t:∀ m,m<n->A.dJ m=b:=λm hm=>by
  cases b with
  |true=>
   have d:oa (gF n y) A:=s;by_cases e:m=0
   ·subst e;exact d.2.1
   ·exact r.k' d.2.1 m (by omega) hm
  |false=>
   have d:r0 (gF n y) A:=s;cases j:A.dJ m with
   |false=>rfl
   |true=>have:=r.nI m hm j 0 (by show 0<n;omega);rw [d.2.1 0 (by show 0<n;omega)] at this;cases this
 refine ⟨g.len,λm x a=>⟨(g.mem m x a).aU.up,(g.mem m x a).aU.len⟩,λm x a l D E=>?_,λm x a c j=>⟨?_,?_⟩⟩
 ·have hm:=g.mem m x a;have z:=q a;have key:∀ k,k<8->x.get (l * 8+k)=if (b && (fj y).contains l)=true then ([512,1,0,0,0,0,0,0]:a8).getD k 0 else tU l k:=λk u=>by
   by_cases i:l ∈ fj y
   ·have f:jO l ∈ bM (gF n y):=rl.2 ⟨l,i,rfl⟩;have o:=hm.bV _ f;rw [B m z _ f] at o;have j:(fj y).contains l=true:=List.contains_iff_mem.2 i;rw [j];cases b with
    |true=>
     have o:∀ k,k<8->x.get (l * 8+k)=(iJ (jO l)).getD k 0:=o;rw [o k u,if_pos (by simp)];have:iJ (jO l)=[512,1,0,0,0,0,0,0]:=by show lB 256::_=_;rw [MT];rfl
     rw [this]
    |false=>have o:∀ k,k<8->x.get (l * 8+k)=tU l k:=o;rw [o k u,if_neg (by simp)]
   ·have j:¬ ((b && (fj y).contains l)=true):=λe=>by rw [ep] at e;exact i (List.contains_iff_mem.1 e.2)
    rw [if_neg j];exact hm.gE l D E (λp f e=>by obtain ⟨l',w,rfl⟩:=rl.1 f;have e:l'=l:=e;exact i (by rw [<-e];exact w)) k u
  have C:=key 0 (by omega);rw [mb] at C;unfold aN.dx AN;rw [C,key 1 (by omega),key 2 (by omega),key 3 (by omega),key 4 (by omega),key 5 (by omega),key 6 (by omega),key 7 (by omega)];split<;>rfl
 ·by_cases e:c=0
  ·subst e;have:=(g.mem m x a).aU.d0;rw [aq m (q a)] at this;exact this
  ·rw [if_neg e];exact (g.mem m x a).aU.dV c (by omega) j
 ·by_cases e:c=0
  ·subst e;have:=(g.mem m x a).dJ;rw [t m (q a)] at this;cases b with
   |true=>rw [if_pos ⟨rfl,rfl⟩];exact this
   |false=>rw [if_neg (by simp)];exact this
  ·rw [if_neg (λh=>e h.2)];exact (g.mem m x a).cO c (by omega) j
end
namespace gP
abbrev e2:=cb
abbrev g8:TypeId:=45
abbrev FB:TypeId:=46
structure ip (A:a6) (w:ak) (r:e2) (t:bJ conv):Prop where
 kind:r.Kind=Mj t.bQ
 aW:r.Client=t.aW
 e4:r.nr=t.e4
 bad:r.n8=t.bad
 a7:hS A w r.tO t.a7
 dL:r.r'=t.a7.length
 gc:r.r'<=r.zx
 bQ:wm A w r t.bQ
 out:wL A w r t.out
 len:t.a7.length<=201
theorem ip.aA {A A':a6} {w w':ak} {r:e2} {t:bJ conv} (h:ip A w r t) (b:ao A w w') (a:∀ k,k<w.heap.size->A' k->A k):ip A' w' r t:=
 ⟨h.kind,h.aW,h.e4,h.bad,h.a7.aA b a,h.dL,h.gc,h.bQ.aA b a,h.out.aA b a,h.len⟩
theorem ip.fail {A:a6} {w:ak} {r:e2} {t:bJ conv} (h:ip A w r t):ip A w { r with nr:=true,n8:=true } t.fail:=
 ⟨h.kind,h.aW,rfl,rfl,h.a7,h.dL,h.gc,h.bQ,h.out,h.len⟩
theorem rN {z:ak} {b1 aB:Nat} {r:e2} {cs:ax} {R:cz} (b:av z b1 r.cells g8) (c:av z aB cs g8) (f:cs.length=36) (e:∀ w',ao (λk=>k=aB) z w'->R r.val w') :
  cb.ex λx=>cf z ⟨b1,0,none⟩ 0 x.cells/\eh z ⟨aB,0,none⟩ 0 x.cells/\∀ w',w'=cu z ⟨aB,0,none⟩ 0 x.cells->cb.ex λy=>cf w' ⟨aB,0,none⟩ 0 y.cells/\w'=w'/\R y.val w':=by
 refine cb.aT r ⟨bO b rfl,?_⟩;refine dQ (vs:=r.cells) c (by rw [f];rfl) (cb.single r) λw' a d=>?_
 exact cb.aT r ⟨bO a rfl,rfl,e w' d⟩
def r6 (A:a6) (aw:Nat->Tag) (w:ak) (aJ:Nat) (x:aE×bJ conv) (v:a4) (w':ak):Prop:=
 dR A aw w aJ x.1 w' λB=>∃ r:e2,v=r.val/\ip B w' r x.2
theorem wI {A:a6} {aw:Nat->Tag} {w z w':ak} {aJ b1 aB:Nat} {B:a6} {dz:Nat->Tag} {X:bR} {r:e2} {t:bJ conv} (h:ft A aw w aJ (λk=>k=b1\/k=aB) z B dz X) (c:ip (λk=>B k\/k=b1\/k=aB) z r t) (a:ao (λk=>k=aB) z w') :
  r6 A aw w aJ (X.pure,t) r.val w':=
 (h.local a λ_ e=>.inr e).done ⟨r,rfl,c.aA (a.mono λ_ _ e=>.inr (.inr e)) λk _ b=>.inl b⟩
def iU (ts:List (e2×bJ conv)):List ax:=ts.map λx=>x.1.cells
theorem sJ (ts:List (e2×bJ conv)):∀ r ∈ iU ts,r.length=36:=by intro r a;simp only [iU,cZ] at a;obtain ⟨x,_,rfl⟩:=a;rfl
theorem Bt {ts:List (e2×bJ conv)} {i:Nat} {x:e2×bJ conv} (h:ts[i]?=some x):(iU ts)[i]?=some x.1.cells:=by simp [iU,h]
theorem I5 (ts:List (e2×bJ conv)):∀ u ∈ (iU ts).flatten,single u=true:=by intro u hu;obtain ⟨r,b,a⟩:=o2.1 hu;simp only [iU,cZ] at b;obtain ⟨x,_,rfl⟩:=b;exact cb.single _ u a
end gP
namespace gP
theorem PB {A:a6} {z:ak} {r:e2} {t:bJ conv} (h:ip A z r t) (X2:∀ k,A k->k<z.heap.size) :
  bb 65 [r.val] z λv XS=>ai z XS/\∃ (aa:an) (ac:Nat) (cp:List aG) (X3:e2),v=.tuple #[.slice aa cp.length ac,X3.val]/\bk XS aa (dP cp).flatten/\(∀ k,aL aa k->z.heap.size<=k)/\et (λk=>k<z.heap.size) XS cp (conv.next t.bQ t.a7).1/\ip A XS X3 t.told:=by
 refine bd Tryz.func65 ?_;rw [Wj];rintro b1 bG XT XN;obtain ⟨X,XM⟩:=bl XT XN;have X:av bG b1 r.cells g8:=X;clear XN;rintro aB Z XU XO;obtain ⟨Q,XC⟩:=bl XU XO;obtain ⟨XK,Q,Xx⟩:∃ cs,av Z aB cs g8/\cs.length=r.cells.length:=⟨_,Q,rfl⟩;clear XO;have E:=XM.new XC;have X8:=XM.size;have X9:=XC.size;have X5:=X.lt;have X6:=Q.lt;have b:=ai.aj XC X;cases F:t.bQ with
 |inl c=>
  have l:r.Kind=3:=by rw [h.kind,F];rfl
  have XA:e7.qp A z r.i' c:=by have:=h.bQ;rw [F] at this;exact this
  have j:t.told={ t with e4:=(ed c t.a7).2.2,out:=.inl (ed c t.a7).2.1 }:=by unfold bJ.told;rw [F];rfl
  have V:conv.next (.inl c) t.a7=((ed c t.a7).1,.inl (ed c t.a7).2.1,(ed c t.a7).2.2):=rfl;refine ⟨_,b.cell (i:=0) rfl,di (by rw [l];rfl) (di (by rw [l];rfl) (gB (by rw [l];rfl) ?_))⟩;refine dt.aT r.i' ⟨bO b rfl,_,_,_,b.cell (i:=23) rfl,?_⟩;have p:ao A z Z:=ao.b9 E;have XP:e7.qp A Z r.i' c:=XA.aA (A':=A) p λ_ _ e=>e
  have XW:=h.a7.aA (A':=A) p λ_ _ e=>e
  have Xz:=Nk XP.at_ (λ_=>XP.lV) XW h.dL h.gc;refine aD Xz ?_;rintro v bq ⟨aa,ac,cp,rfl,J,L,G,W⟩;refine ⟨_,_,_,bF.aT ⟨(ed c t.a7).2.1.1,(ed c t.a7).2.1.2⟩ ⟨(ed c t.a7).2.2,rfl,?_⟩⟩;refine ec (vs:=bF.cells ⟨(ed c t.a7).2.1.1,(ed c t.a7).2.1.2⟩) rfl (bF.single _) λXJ XR XV T B=>?_
  rintro Xv M;have g:ai XR Xv:=by rw [M];exact cK _
  clear M;have XY:=J.size;have XZ:=B.size;have X0:=g.size;have a:=ai.aj g T;have d:=(J.new B).new g;have P:=ai.aj d b;have R:=ai.aj d Q;refine ⟨λy=>av y XJ (bF.cells ⟨(ed c t.a7).2.1.1,(ed c t.a7).2.1.2⟩) eR,a,_,λy D=>D.cell (i:=0) rfl,_,λy D=>D.cell (i:=1) rfl,?_⟩;refine kU P (i:=24) rfl λX_ XE f=>⟨f.aj a (by omega),?_⟩
  refine kU XE (i:=26) rfl λX' XF x=>⟨x.aj (f.aj a (by omega)) (by omega),?_⟩
  refine kU XF (i:=32) rfl λu8 U I=>?_
  rintro Xw O;have C:ai u8 Xw:=by rw [O];exact cK _
  clear O;have s:ao (λk=>k=b1) Xv u8:=(f.trans x λ_ _ e=>e).trans I λ_ _ e=>e
  have U:av u8 b1 (cb.cells { r with nr:=(ed c t.a7).2.2,Code:=(ed c t.a7).2.1.1,qo:=(ed c t.a7).2.1.2 }) g8:=U;have XG:=ai.aj C U;have S:av Xw aB XK g8:=ai.aj C (s.aj R (by omega));have H:ao (λk=>k=b1) Xv Xw:=s.new C;refine ⟨λy=>ai Xw y,ao.refl _ _,cb.aT { r with nr:=(ed c t.a7).2.2,Code:=(ed c t.a7).2.1.1,qo:=(ed c t.a7).2.1.2 } ⟨λy D=>bO (ai.aj D XG) rfl,?_⟩⟩;refine dQ S (by rw [Xx];rfl) (cb.single _) λXI XH XB=>?_
  refine cb.aT { r with nr:=(ed c t.a7).2.2,Code:=(ed c t.a7).2.1.1,qo:=(ed c t.a7).2.1.2 } ⟨bO XH rfl,rfl,?_⟩;have w:ao (λk=>k=b1\/k=aB) Xv XI:=(H.mono λk _ e=>.inl e).trans (XB.mono λk _ e=>.inr e) λ_ _ e=>e
  have K:ai z XI:=(E.new d).trans w λk XX e=>by omega
  have q:ao (λk=>k=b1\/k=aB) bq XI:=(ao.b9 (B.new g)).trans w λ_ _ e=>e
  refine ⟨K,aa,ac,cp,_,rfl,L.aA q (hk L λk l e=>by have:=G k l;omega),λk l=>by have:=G k l;omega,?_,?_⟩
  ·rw [V];exact W.aA (q.mono λk _ e=>by show k<Z.heap.size;omega) λk _ e=>by show k<Z.heap.size;omega
  ·have n:=h.aA (A':=A) (ao.b9 K) λ_ _ e=>e
   rw [j];exact ⟨n.kind,n.aW,rfl,n.bad,n.a7,n.dL,n.gc,n.bQ,⟨rfl,rfl⟩,n.len⟩
 |inr Y=>
  have l:r.Kind=4:=by rw [h.kind,F];rfl
  have XA:qq A z r.Recover Y:=by have:=h.bQ;rw [F] at this;exact this
  have j:t.told={ t with e4:=(fM Y t.a7).2.2,out:=.inr (fM Y t.a7).2.1 }:=by unfold bJ.told;rw [F];rfl
  have V:conv.next (.inr Y) t.a7=((fM Y t.a7).1,.inr (fM Y t.a7).2.1,(fM Y t.a7).2.2):=rfl;refine ⟨_,b.cell (i:=0) rfl,di (by rw [l];rfl) (di (by rw [l];rfl) (di (by rw [l];rfl) (gB (by rw [l];rfl) ?_)))⟩;refine dE.aT r.Recover ⟨bO b rfl,_,_,_,b.cell (i:=23) rfl,?_⟩;have p:ao A z Z:=ao.b9 E;have XP:qq A Z r.Recover Y:=XA.aA (A':=A) p λ_ _ e=>e
  have XW:=h.a7.aA (A':=A) p λ_ _ e=>e
  refine aD (On XP.at_ XW h.dL h.gc) ?_;rintro v bq ⟨aa,ac,cp,rfl,J,L,G,W⟩;generalize X7:fM Y t.a7=N at W j V;obtain ⟨Ya,o,XQ⟩:=N;refine ⟨_,_,_,dA.aT o ⟨XQ,rfl,?_⟩⟩;refine ec (vs:=o.cells) rfl (dA.single _) λXJ XR XV T B=>?_
  rintro Xv M;have g:ai XR Xv:=by rw [M];exact cK _
  clear M;have XY:=J.size;have XZ:=B.size;have X0:=g.size;have T:av XR XJ o.cells ph:=T;have a:=ai.aj g T;have d:=(J.new B).new g;have P:=ai.aj d b;have R:=ai.aj d Q;refine ⟨λy=>av y XJ o.cells ph,a,_,λy D=>D.cell (i:=0) rfl,_,λy D=>D.cell (i:=1) rfl,_,λy D=>D.cell (i:=2) rfl,_,λy D=>D.cell (i:=3) rfl,?_⟩;have off:∀ {u bw:ak},ao (λk=>k=b1) u bw->av u XJ o.cells ph->av bw XJ o.cells ph:=λl X4=>l.aj X4 (by omega)
  refine kU P (i:=24) rfl λX_ XE f=>⟨off f a,?_⟩
  refine kU XE (i:=26) rfl λX' XF x=>⟨off x (off f a),?_⟩
  refine kU XF (i:=33) rfl λu8 U I=>⟨off I (off x (off f a)),?_⟩
  refine kU U (i:=34) rfl λv1 X1 Xy=>⟨off Xy (off I (off x (off f a))),?_⟩
  refine kU X1 (i:=35) rfl λv2 XD XL=>?_
  rintro Xw O;have C:ai v2 Xw:=by rw [O];exact cK _
  clear O;have s:ao (λk=>k=b1) Xv v2:=(((f.trans x λ_ _ e=>e).trans I λ_ _ e=>e).trans Xy λ_ _ e=>e).trans XL λ_ _ e=>e
  have XD:av v2 b1 (cb.cells { r with nr:=XQ,Code:=o.Code,k4:=o.k4,Seq:=o.Seq,k2:=o.k2 }) g8:=XD;have XG:=ai.aj C XD;have S:av Xw aB XK g8:=ai.aj C (s.aj R (by omega));have H:ao (λk=>k=b1) Xv Xw:=s.new C;refine ⟨λy=>ai Xw y,ao.refl _ _,cb.aT { r with nr:=XQ,Code:=o.Code,k4:=o.k4,Seq:=o.Seq,k2:=o.k2 } ⟨λy D=>bO (ai.aj D XG) rfl,?_⟩⟩;refine dQ S (by rw [Xx];rfl) (cb.single _) λXI XH XB=>?_
  refine cb.aT { r with nr:=XQ,Code:=o.Code,k4:=o.k4,Seq:=o.Seq,k2:=o.k2 } ⟨bO XH rfl,rfl,?_⟩;have w:ao (λk=>k=b1\/k=aB) Xv XI:=(H.mono λk _ e=>.inl e).trans (XB.mono λk _ e=>.inr e) λ_ _ e=>e
  have K:ai z XI:=(E.new d).trans w λk XX e=>by omega
  have q:ao (λk=>k=b1\/k=aB) bq XI:=(ao.b9 (B.new g)).trans w λ_ _ e=>e
  refine ⟨K,aa,ac,cp,_,rfl,L.aA q (hk L λk l e=>by have:=G k l;omega),λk l=>by have:=G k l;omega,?_,?_⟩
  ·rw [V];exact W.aA (q.mono λk _ e=>by show k<Z.heap.size;omega) λk _ e=>by show k<Z.heap.size;omega
  ·have n:=h.aA (A':=A) (ao.b9 K) λ_ _ e=>e
   rw [j];exact ⟨n.kind,n.aW,rfl,n.bad,n.a7,n.dL,n.gc,n.bQ,⟨rfl,rfl,rfl,rfl⟩,n.len⟩
end gP
namespace gP
def DO (o b1 aB:Nat) (z:ak) (R:cz):Prop:=
 ∃ (g:an) (dL gc:Nat),z.cell? ⟨b1,23,none⟩=some (.slice g dL gc)/\(bif (decide ((dL:Int)>200)) then
  ((∃ u,z.cell? ⟨b1,24,none⟩=some u)/\z.frozen? ⟨b1,24,none⟩=false/\∀ d,d=z.setCell ⟨b1,24,none⟩ (.bool true)->(∃ u,d.cell? ⟨b1,25,none⟩=some u)/\d.frozen? ⟨b1,25,none⟩=false/\∀ f,f=d.setCell ⟨b1,25,none⟩ (.bool true)->
   cb.ex λx=>cf f ⟨b1,0,none⟩ 0 x.cells/\eh f ⟨aB,0,none⟩ 0 x.cells/\∀ w',w'=cu f ⟨aB,0,none⟩ 0 x.cells->cb.ex λy=>cf w' ⟨aB,0,none⟩ 0 y.cells/\w'=w'/\R y.val w')
  else (cb.ex λr=>cf z ⟨b1,0,none⟩ 0 r.cells/\Calls prog 65 #[r.val] z λe n=>∃ (a:an) (da ac:Nat),cb.ex λj=>e=.returned (.tuple #[.slice a da ac,j.val])/\eh n ⟨b1,0,none⟩ 0 j.cells/\∀ b,b=cu n ⟨b1,0,none⟩ 0 j.cells->
   ∃ l:Bool,b.cell? ⟨b1,24,none⟩=some (.bool l)/\(bif (!l) then (∃ cE:Int,b.cell? ⟨b1,1,none⟩=some (.int .i64 cE)/\Calls prog 66 #[.pointer (some ⟨o,0,none⟩),.int .i64 cE,.slice a da ac] b λe c=>∃ k:Int,e=.returned (.int .i64 k)/\(bif (k != 0) then
     ((∃ u,c.cell? ⟨b1,24,none⟩=some u)/\c.frozen? ⟨b1,24,none⟩=false/\∀ h,h=c.setCell ⟨b1,24,none⟩ (.bool true)->(∃ u,h.cell? ⟨b1,25,none⟩=some u)/\h.frozen? ⟨b1,25,none⟩=false/\∀ i,i=h.setCell ⟨b1,25,none⟩ (.bool true)->
      cb.ex λx=>cf i ⟨b1,0,none⟩ 0 x.cells/\eh i ⟨aB,0,none⟩ 0 x.cells/\∀ w',w'=cu i ⟨aB,0,none⟩ 0 x.cells->cb.ex λy=>cf w' ⟨aB,0,none⟩ 0 y.cells/\w'=w'/\R y.val w')
     else (cb.ex λx=>cf c ⟨b1,0,none⟩ 0 x.cells/\eh c ⟨aB,0,none⟩ 0 x.cells/\∀ w',w'=cu c ⟨aB,0,none⟩ 0 x.cells->cb.ex λy=>cf w' ⟨aB,0,none⟩ 0 y.cells/\w'=w'/\R y.val w')))
    else (cb.ex λx=>cf b ⟨b1,0,none⟩ 0 x.cells/\eh b ⟨aB,0,none⟩ 0 x.cells/\∀ w',w'=cu b ⟨aB,0,none⟩ 0 x.cells->cb.ex λy=>cf w' ⟨aB,0,none⟩ 0 y.cells/\w'=w'/\R y.val w'))))
theorem Eu {A:a6} {aw:Nat->Tag} {w z:ak} {aJ b1 aB:Nat} {B:a6} {dz:Nat->Tag} {X:bR} {r:e2} {t:bJ conv} (h:ft A aw w aJ (λk=>k=b1\/k=aB) z B dz X) (s:b1≠aB) (c:av z b1 r.cells g8) {cs:ax} (n:av z aB cs g8) (o:cs.length=36) (D:ip (λk=>B k\/k=b1\/k=aB) z r t) :
  (∃ u,z.cell? ⟨b1,24,none⟩=some u)/\z.frozen? ⟨b1,24,none⟩=false/\∀ l,l=z.setCell ⟨b1,24,none⟩ (.bool true)->(∃ u,l.cell? ⟨b1,25,none⟩=some u)/\l.frozen? ⟨b1,25,none⟩=false/\∀ j,j=l.setCell ⟨b1,25,none⟩ (.bool true)->
   cb.ex λx=>cf j ⟨b1,0,none⟩ 0 x.cells/\eh j ⟨aB,0,none⟩ 0 x.cells/\∀ w',w'=cu j ⟨aB,0,none⟩ 0 x.cells->cb.ex λy=>cf w' ⟨aB,0,none⟩ 0 y.cells/\w'=w'/\r6 A aw w aJ (X.pure,t.fail) y.val w':=by
 refine ⟨⟨_,c.cell rfl⟩,c.frozen,?_⟩;rintro l f;have q:ao (λk=>k=b1) z l:=by rw [f];exact eX _ _ _ _
 have a:=c.setCell (i:=24) (.bool true);rw [<-f] at a;clear f;refine ⟨⟨_,a.cell rfl⟩,a.frozen,?_⟩;rintro j g;have d:ao (λk=>k=b1) z j:=by rw [g];exact q.setCell (.inl rfl) _
 have b:=a.setCell (i:=25) (.bool true);rw [<-g] at b;clear g;have b:av j b1 ({ r with nr:=true,n8:=true }:e2).cells g8:=b;refine rN b (d.aj n λe=>s e.symm) o λw' p=>?_
 exact wI (h.local d λ_ e=>.inl e) ((D.aA (d.mono λ_ _ e=>.inr (.inl e)) λ_ _ C=>C).fail) p
theorem Ev {A:a6} {aw:Nat->Tag} {w z:ak} {aJ b1 aB:Nat} {B:a6} {dz:Nat->Tag} {X:bR} {r:e2} {t:bJ conv} (h:ft A aw w aJ (λk=>k=b1\/k=aB) z B dz X) (T:Good X.pure) (s:b1≠aB)
  (b:av z b1 r.cells g8) {cs:ax} (n:av z aB cs g8) (d:cs.length=36) (U:ip (λk=>B k\/k=b1\/k=aB) z r t) :
  DO aJ b1 aB z (r6 A aw w aJ (hG X.pure t)):=by
 unfold DO hG;have Xw:=U.dL;refine ⟨_,_,_,b.cell rfl,bc (λXv=>?_) (λXv=>?_)⟩
 ·rw [if_pos (by omega)];exact Eu h s b n d U
 ·rw [if_neg (by omega)];refine cb.aT r ⟨bO b rfl,?_⟩;refine aD (PB U (λk D=>h.ck.low k D)) ?_;rintro v XA ⟨q,aa,ac,cp,K,rfl,G,C,V,f⟩;refine ⟨_,_,_,cb.aT K ⟨rfl,?_⟩⟩;have W:=b.lt;have Y:=n.lt;refine dQ (vs:=K.cells) (ai.aj q b) rfl (cb.single K) λL a c=>?_
  have E:ao (λk=>k=b1) z L:=(ao.b9 q).trans c λ_ _ e=>e
  have M:=(h.new q).local c λ_ e=>.inl e
  have H:=f.aA (A':=λk=>B k\/k=b1\/k=aB) (c.mono λ_ _ e=>.inr (.inl e)) λ_ _ P=>P
  have j:av L aB cs g8:=E.aj n λe=>s e.symm
  have l:bk L aa (dP cp).flatten:=G.aA c (hk G λk D e=>by have:=C k D;omega);refine ⟨_,a.cell rfl,ev (λS=>?_) (λS=>?_)⟩
  ·have u:(conv.next t.bQ t.a7).2.2=false:=by rw [<-S];exact f.e4.symm
   rw [if_neg (by rw [u];simp)];refine ⟨_,a.cell rfl,?_⟩;have F:((dP cp).flatten=[])\/gA (λk=>B k\/k=b1\/k=aB) aa:=hk l λk D e=>by have N:=C k D;have Xz:=h.ck.low k e;omega
   have J:et (λk=>B k\/k=b1\/k=aB) L cp (conv.next t.bQ t.a7).1:=V.aA (c.mono λk _ e=>by show k<z.heap.size;omega) λk _ P=>h.ck.low k P
   have Q:K.Client=t.aW:=f.aW;rw [Q];refine aD (Pk M.ck T.ok t.aW (lcap:=ac) l F J) ?_;rintro v Z ⟨rfl,Xx⟩;obtain ⟨B',XB,Xy,N,y,_,R,O,x⟩:=M.op Xx;have g:av Z b1 K.cells g8:=(x b1 (.inl rfl)).trans a;have i:av Z aB cs g8:=(x aB (.inr rfl)).trans j;have I:=H.aA (A':=λk=>B' k\/k=b1\/k=aB) R O;refine ⟨_,rfl,du (λo=>?_) (λo=>?_)⟩
   ·rw [if_pos o,<-y];exact Eu N s g i d I
   ·rw [if_neg (λe=>e o)];refine rN g i d λw' p=>?_
    rw [<-y];exact wI N I p
  ·have u:(conv.next t.bQ t.a7).2.2=true:=by rw [<-S];exact f.e4.symm
   rw [if_pos u];refine rN a j d λw' p=>?_
   exact wI M H p
theorem Ew {A:a6} {aw:Nat->Tag} {w:ak} {aJ:Nat} {X:bR} (h:b6 A aw w aJ X) (M:Good X.pure) {r:e2} {t:bJ conv} (XE:ip A w r t) (XD:nb t) :
  bb 34 [ptr aJ,r.val] w (r6 A aw w aJ (bN X.pure t)):=by
 refine bd Tryz.func34 ?_;rw [ptr,Wi];rintro b1 w1 Y P aB S Z Q;obtain ⟨E,L⟩:=bl Y P;obtain ⟨p,C⟩:=bl Z Q;have a:av S b1 r.cells g8:=ai.aj C E;have XM:=E.lt;have XF:=L.size;have XN:=p.lt;have XG:=C.size;clear P Q E;have x:=L.new C;have D:b1≠aB:=by omega
 have H:ft A aw w aJ (λk=>k=b1\/k=aB) S A aw X:=ft.start h x λk XQ=>by omega
 have N:ip (λk=>A k\/k=b1\/k=aB) S r t:=XE.aA (ao.b9 x) λk XK R=>by
  rcases R with R | R
  ·exact R
  ·omega
 have c:∀ w',ao (λk=>k=aB) S w'->r6 A aw w aJ (X.pure,t) r.val w':=λw' Xy=>wI H N Xy
 unfold bN;have B:r.Client=t.aW:=XE.aW;refine ⟨_,a.cell rfl,?_⟩;rw [XE.e4];cases XC:t.e4 with
 |true=>refine gB rfl ?_;rw [if_pos (.inl rfl)];exact rN a p rfl c
 |false=>
  refine di rfl ?_;refine ⟨_,a.cell rfl,?_⟩;rw [B];refine aD (DV H.ck _) ?_;rintro v XR ⟨rfl,rfl⟩;refine ⟨_,rfl,ev (λV=>?_) (λV=>?_)⟩
  ·rw [if_pos (.inr (.inl V))];exact rN a p rfl c
  refine ⟨_,a.cell rfl,?_⟩;rw [B];refine aD (Ko H.ck _) ?_;rintro v XS ⟨rfl,rfl⟩;refine ⟨_,rfl,bc (λhw=>?_) (λhw=>?_)⟩
  ·rw [if_pos (.inr (.inr (by omega)))];exact rN a p rfl c
  rw [if_neg (by rw [V];simp;omega)];refine ⟨_,a.cell rfl,?_⟩;rw [B];refine aD (Ph H.ck _) ?_;rintro v XH XL;obtain ⟨B',XT,XI,T,I,j,Xz,U,G⟩:=H.op XL;have l:av XH b1 r.cells g8:=(G b1 (.inl rfl)).trans a;have u:=(G aB (.inr rfl)).trans p;have s:=N.aA (A':=λk=>B' k\/k=b1\/k=aB) Xz U;have y:Good XI.pure:=by rw [I];exact M.take _
  have O:∀ ds,(X.pure.take t.aW).1=some ds->ds.length<=1024:=λds=>Mv M
  have hlen:=XD XC;rw [<-I];generalize (X.pure.take t.aW).1=XO at j O ⊢;cases XO with
  |none=>have j:v=.tuple #[.slice none 0 0,.bool false]:=j;subst j;refine ⟨_,_,_,_,rfl,di rfl ?_⟩;exact Ev T y D l u rfl s
  |some ds=>
   obtain ⟨b,raw,rfl,Xv,K,XB⟩:=j;refine ⟨_,_,_,_,rfl,gB rfl ?_⟩;refine ⟨_,_,_,l.cell rfl,?_⟩;rw [s.dL];refine Mw s.a7 (by omega) Xv K XB (O ds rfl) T.ck.low (by rw [K.1]) ?_;intro XP ap cap z XJ Xx J q;have n:=ai.aj q l;refine ⟨⟨_,n.cell rfl⟩,n.frozen,?_⟩;rintro F o;have f:ao (λk=>k=b1) z F:=by rw [o];exact eX _ _ _ _
   have d:=n.setCell (i:=23) (.slice ap (t.a7.length+1) cap);rw [<-o] at d;clear o;have d:av F b1 ({ r with tO:=ap,r':=t.a7.length+1,zx:=cap }:e2).cells g8:=d;refine Ev ((T.new q).local f λ_ e=>.inl e) y D d (f.aj (ai.aj q u) λe=>D e.symm) rfl ?_;have XA:ao (λk=>B' k\/k=b1\/k=aB) XH F:=(ao.b9 q).trans f λ_ _ e=>.inr (.inl e)
   have g:=s.aA (A':=λk=>B' k\/k=b1\/k=aB) XA λ_ _ W=>W
   have Xw:(t.a7++[ds]).length=t.a7.length+1:=by simp
   exact ⟨g.kind,g.aW,g.e4,g.bad,Xx.aA (f.mono λ_ _ e=>.inr (.inl e)) λ_ _ W=>W,Xw.symm,J,g.bQ,g.out,by show (t.a7++[ds]).length<=201;omega⟩
end gP
end Go.Proofs.YtmkljjbioomepaaGreat
