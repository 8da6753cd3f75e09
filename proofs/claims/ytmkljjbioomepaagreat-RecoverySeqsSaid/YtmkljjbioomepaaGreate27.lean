import Derived.Test.YtmkljjbioomepaaGreate26
import Derived.Test.YtmkljjbioomepaaGreate01
import Derived.Laws.StructEq
import Derived.Test.YtmkljjbioomepaaGreatProg
import Derived.Test.YtmkljjbioomepaaGreate03
set_option linter.all false
set_option maxHeartbeats 4000000
set_option maxRecDepth 100000
namespace Go.Proofs.YtmkljjbioomepaaGreat
open Go.Proofs.Tryz Go.bn
section
open Go.RowKit Go.Shelf
theorem Ns {P:Program} {fn:Func} {R:cp} {ds:List Deferred} {e:Exit} {a:Act} {w:al} (h:mc ds (bC P fn R λ_ _ _=>False) e a w):mc ds (dh P fn R) e a w:=by
 obtain ⟨d,env,rfl,b⟩:=lR h;cases e with
 |normal=>exact b.elim
 |ret=>exact gx b d
 |panic c=>exact absurd rfl (d.1 c)
 |outgrown=>exact absurd rfl d.2
 |exit i=>exact b.elim
 |goto i=>exact b.elim
theorem B8 {aK:a4} (hu:∀ x ∈ aK,b3 x) (n:Nat):∀ p ∈ hv aK n,b3 p.Head:=by
 intro p a;obtain ⟨i,_,rfl⟩:=cD.1 a;show b3 (((aK.drop (2+9 * i)).take 9).getD 1 0);rw [cK];cases h:((aK.drop (2+9 * i)).take 9)[1]? with
 |none=>exact gQ
 |some x=>exact hu x (n1 (r3 (cj h)))
theorem pM (aK:a4) (n:Nat):(hv aK n).length=n:=by simp [hv]
theorem Jb {w W:al} {a:an} {N cg n:Nat} {aK:a4} {lines:Int} (Uq:bg w a (us aK)) (UN:N=aK.length) (UM:N<=cg) (hu:∀ x ∈ aK,b3 x) (T:N<=1000) (UA:(aK.getD 1 0)=n) (Up:n<=12) (Uz:98<=lines/\lines<=256) (hlen:3+9 * n<=aK.length) (UC:0<=aK.getD 0 0) (UD:aK.getD 0 0<1073741824)
  {j L D cap:Nat} {aX:an} (J:av W j ib.cells dW) (B:av W L [.int .i64 (aK.getD 0 0),.slice aX n cap] dW) (Ux:j≠L) (d:aY W eN 9 aX n cap (hz (hv aK n)).flatten) (H:∀ k,aL aX k->k≠j/\w.heap.size<=k) (hw:ai w W) (UK:w.heap.size<=j) (UL:w.heap.size<=D) (f:W.heap[D]?=some (.deferred (some []))) (M:aw) :
  Go.bn.W prog (sub dI [1,1,1,1,1,1,1]) (yX a N cg lines ⟨j,0,none⟩ ⟨L,0,none⟩ ((3+9 * n:Nat):Int) M) (bC prog f251 (λv u=>u.heap[D]?=some (.deferred (some []))/\eB w (d' aK lines) (.int .i64 (d8 aK lines)) v (u.putObj D (.deferred none))) λ_ _ _=>False) W:=by
 have S:D≠j:=λe=>by rw [e,show W.heap[j]?=_ from J] at f;cases f
 have V:∀ k,aL aX k->k≠D:=by
  intro k i e;obtain ⟨o,F⟩:=i;rcases d.2 with ⟨he,_⟩ | ⟨g,cur,he,Uy,_⟩
  ·rw [he] at F;cases F
  ·rw [he] at F;simp at F;rw [<-e,<-F.1,show W.heap[g]?=_ from Uy] at f;cases f
 have Us:∀ {u:al},ao (λk=>k=j) W u->u.heap[D]?=some (.deferred (some []))/\ao (λk=>k=j\/k=D) W (u.putObj D (.deferred none))/\ai w (u.putObj D (.deferred none)):=by intro u i;have Uw:u.heap[D]?=some (.deferred (some [])):=(i.block D (tL.1 f).1 S).trans f;have Un:ao (λk=>k=j\/k=D) W (u.putObj D (.deferred none)):=(ao.mono i (λ_ _ h=>Or.inl h)).trans (qY (grownBy_putObj' u D (.deferred none))) (λk U e=>.inr (by simpa using e));exact ⟨Uw,Un,hw.trans Un λk U e=>by rcases e with e | e<;>omega⟩
 have E:(aK.getD 1 0).toNat=n:=by omega
 have O:d8 aK lines=if ff (aK.getD 0 0) (hv aK n) lines≠0 then 14 else if eD (aK.getD 0 0) (hv aK n)≠aK.take (3+9 * n) then 14 else 0:=by unfold d8;rw [if_neg (λe=>e Uz),if_neg (by omega),if_neg (by omega),E]
 have Uv:d8 aK lines=0->d' aK lines=(aK.getD 0 0,hv aK n):=λh=>by unfold d';rw [if_pos h,E]
 rw [Rt,RU];refine gK (fn:=f251) (R:=λv u=>u.heap[D]?=some (.deferred (some []))/\eB w (d' aK lines) (.int .i64 (d8 aK lines)) v (u.putObj D (.deferred none))) (λ_ _=>rfl) ?_;rw [SA];rintro w1 I;have l:ai W w1:=by rw [I];exact cL _
 clear I;have q:eY w1 aX n (hv aK n):=⟨(bg.new l d.rd),(pM aK n).symm,by rw [pM];omega,B8 hu n⟩;have Uo:=ai.ak l B;have last:∀ (t:Bool) (u:al),ai W u->(t=true->d8 aK lines=14)->(t=false->d8 aK lines=0)->∀ M,Go.bn.W prog (sub dI [1,1,1,1,1,1,1,0,1]) (vG ⟨j,0,none⟩ ⟨L,0,none⟩ t M)
   (a1 (λenv Uk=>Go.bn.W prog (sub dI [1,1,1,1,1,1,1,1]) env (bC prog f251 (λv u=>u.heap[D]?=some (.deferred (some []))/\eB w (d' aK lines) (.int .i64 (d8 aK lines)) v (u.putObj D (.deferred none))) λ_ _ _=>False) Uk) (bC prog f251 (λv u=>u.heap[D]?=some (.deferred (some []))/\eB w (d' aK lines) (.int .i64 (d8 aK lines)) v (u.putObj D (.deferred none))) λ_ _ _=>False)) u:=by
  intro t u z UE T M;refine gK (fn:=f251) (R:=λv u=>u.heap[D]?=some (.deferred (some []))/\eB w (d' aK lines) (.int .i64 (d8 aK lines)) v (u.putObj D (.deferred none))) (λ_ _=>rfl) ?_;rw [SB];have au:=ai.ak z J;cases t with
  |true=>refine fK rfl (n_ au rfl ib (K:=λres A=>A.heap[D]?=some (.deferred (some []))/\eB w (d' aK lines) (.int .i64 (d8 aK lines)) (.tuple #[res.val,.int .i64 14]) (A.putObj D (.deferred none))) λUF i _=>?_);obtain ⟨P,Um,Q⟩:=Us ((ao.bZ z).trans i λ_ _ e=>e);exact ⟨P,eB.no (UE rfl) (by decide) Q⟩
  |false=>
   refine dw rfl (ev ?_);rw [SC];refine bN.aS ⟨aK.getD 0 0,aX,n,cap⟩ ⟨bI (ai.ak z B) rfl,?_⟩;refine n_ au rfl ⟨aK.getD 0 0,aX,n,cap⟩ (K:=λres A=>A.heap[D]?=some (.deferred (some []))/\eB w (d' aK lines) (.int .i64 (d8 aK lines)) (.tuple #[res.val,.int .i64 0]) (A.putObj D (.deferred none))) λUF i _=>?_
   obtain ⟨P,Um,Q⟩:=Us ((ao.bZ z).trans i λ_ _ e=>e);rw [Uv (T rfl),T rfl];refine ⟨P,aX,cap,by rw [pM],Q,?_⟩;rw [pM];exact ⟨⟨d.rd.ax Um (g0 d.rd λk i e=>by rcases e with e | e;exact (H k i).1 e;exact V k i e),q.len,q.dM,q.u64⟩,λk i=>(H k i).2⟩
 refine ⟨λy=>ai w1 y,ao.refl _ _,bN.aS ⟨aK.getD 0 0,aX,n,cap⟩ ⟨λu hu=>bI (ai.ak hu Uo) rfl,?_⟩⟩;refine aD (wG (r:=⟨aK.getD 0 0,aX,n,cap⟩) q lines) ?_;rintro v A ⟨rfl,c⟩;refine ⟨_,rfl,c,dt (λhe=>?_) (λhe=>bN.aS ⟨aK.getD 0 0,aX,n,cap⟩ ⟨λu hu=>bI (ai.ak hu Uo) rfl,?_⟩)⟩
 ·exact ev (last true A (l.new c) (λ_=>by rw [O,if_pos he]) (λh=>by cases h) _)
 have aj:ff (aK.getD 0 0) (hv aK n) lines=0:=he;obtain ⟨_,Ur,X,_⟩:=jD aj;have Y:=Uq.new (hw.new (l.new c));obtain ⟨b,o,rfl⟩:∃ b o,a=some ⟨b,o,none⟩:=by
  rcases Uq with e | ⟨b,o,e,_⟩
  ·have:=congrArg List.length e;rw [hg,nZ] at this;omega
  ·exact ⟨b,o,e⟩
 refine kc (by omega) (by omega) (by omega) (by omega) (by omega) λUI Ui=>?_
 have Uj:UI=some ⟨b,o,none⟩:=by
  rcases Ui with h | ⟨h,_⟩
  ·simpa using h
  ·omega
 subst Uj;refine aD (w_ (r:=⟨aK.getD 0 0,aX,n,cap⟩) (q.new c) (zr aj) ⟨Ur.1,Ur.2.1⟩ (by rw [pM];omega) (λp UB=>by have:=X p UB;omega)) ?_;rintro v UG ⟨UJ,Ul,rfl,s,G,_⟩;rw [pM] at G ⊢;refine ⟨_,_,_,rfl,c.new s,?_⟩;have Ut:((3+9 * n:Nat):Int).toNat - (0:Int).toNat=3+9 * n:=by omega
 have Uu:((cg:Nat):Int).toNat - (0:Int).toNat=cg:=by simp
 rw [Ut,Uu];have Z:bg UG (some ⟨b,o,none⟩) (us (aK.take (3+9 * n))):=by have:=(Y.new s).take (3+9 * n);rwa [show (us aK).take (3+9 * n)=us (aK.take (3+9 * n)) by simp [us]] at this
 refine aD (Nr G.rd (by rw [kE,pM]) Z (by rw [gR];omega) (by omega)) ?_;rintro v UH ⟨rfl,C⟩;refine ⟨_,rfl,(c.new s).new C,ev (last _ UH (((l.new c).new s).new C) (λh=>?_) (λh=>?_) _)⟩
 ·have h:¬ eD (aK.getD 0 0) (hv aK n)=aK.take (3+9 * n):=by simpa using h
  rw [O,if_neg (λe=>e aj),if_pos h]
 ·have h:eD (aK.getD 0 0) (hv aK n)=aK.take (3+9 * n):=by simpa using h
  rw [O,if_neg (λe=>e aj),if_neg (λe=>e h)]
theorem Lj {w:al} {a:an} {d cg:Nat} {aK:a4} (lines:Int) (Z:bg w a (us aK)) (X:d=aK.length) (T:d<=cg) (hu:∀ x ∈ aK,b3 x) (U:d<=1000) :
  ba 251 [.slice a d cg,.int .i64 lines] w (eB w (d' aK lines) (.int .i64 (d8 aK lines))):=by
 refine (callsIn_wide (n:=3)).1 ?_;refine callsIn_of_wp_marks (c:=bh f251) Tryz.func251 (by kernel_rfl) trivial ?_ rfl;suffices Um:∀ x:Act,x=act ((.slice a d cg)::(.int .i64 lines)::(bx 72 []))->Code.wpIn Fence.wide 3 prog (bh f251) (bodyPostM Fence.wide 3 prog f251 λe w'=>∃ v,e=.returned v/\eB w (d' aK lines) (.int .i64 (d8 aK lines)) v w') x w from Um _ (by kernel_rfl)
 rintro _ rfl;refine MM mix Gj (ds:=[]) [1,1,1,1,1,1,0,1,0] _ _ _ _ _ (by kernel_rfl) (Ja lines Z X T hu U) ?_ (λe x u h=>Ki (λv aj=>⟨v,rfl,aj⟩) (Kj h));intro env u C;have C:qC w a d cg aK lines (aK.getD 1 0).toNat w.heap.size env u/\(98<=lines/\lines<=256)/\3+9 * (aK.getD 1 0).toNat<=aK.length/\0<=aK.getD 0 0/\aK.getD 0 0<1073741824/\0<=aK.getD 1 0/\aK.getD 1 0<=12:=C;obtain ⟨⟨⟨Q,f,g,i,Uj,Ui,rfl,E,t,O,G,H,j,Uo,b,s⟩,y,hw,Uk⟩,Ul,hlen,L,M,I,Y⟩:=C;obtain ⟨n,J⟩:=m1 I;have p:(aK.getD 1 0).toNat=n:=by omega
 rw [p] at t b hlen s;rw [show sub (bh f251) [1,1,1,1,1,1,0,1,0]=.rangeFunc (.tmp 50) #[51] (sub (bh f251) [1,1,1,1,1,1,0,1,0,0]) (.block 1 (sub (bh f251) [1,1,1,1,1,1,0,1,0,1,0])) by kernel_rfl];have F:∀ A,rX Fence.wide 3 prog (bh f251) [1,1,1,1,1,1,0,1,0] A=Exit.inBlock 0 (Exit.then (λa w=>(sub (bh f251) [1,1,1,1,1,1,1]).wpIn Fence.wide 3 prog A a w) A):=λA=>by kernel_rfl
 rw [F,p];refine HY u w.heap.size Q f g (aK.getD 0 0) ((3+9 * n:Nat):Int) lines aK n d cg i a Uj Ui (by omega) E t O G H b s (by omega) hu _ ?_;intro D W ys Up P S B;rw [P] at S;obtain ⟨⟨aX,cap,q,r,K⟩,o⟩:=S;rw [mj] at q r;have z:=o.ak y (λe=>j e);have N:ai w W:=hw.trans o λk V e=>by omega
 have Un:=hw.size;have l:=Jb (lines:=lines) Z X T hu U J (by omega) Ul hlen L M z q j r (λk V=>by have:=K k V;have:=y.lt;omega) N Uk (by omega) B;show Code.wpIn Fence.wide 3 prog (sub (bh f251) [1,1,1,1,1,1,1]) (bodyPostM Fence.wide 3 prog f251 λe w'=>∃ v,e=.returned v/\eB w (d' aK lines) (.int .i64 (d8 aK lines)) v w') (lH [{ target:=.collected D,args:=#[] }] (n9 a d cg lines w.heap.size Q ((3+9 * n:Nat):Int) undef f g undef Ui)) W;refine wpIn_mono (mv mix Gj (ds:=[{ target:=.collected D,args:=#[] }]) _ _ _ W (by kernel_rfl) ?_) (λe x u h=>Lf (R:=λv u=>u.heap[D]?=some (.deferred (some []))/\eB w (d' aK lines) (.int .i64 (d8 aK lines)) v (u.putObj D (.deferred none))) (λv aj=>⟨aj.1,v,rfl,aj.2⟩) (Ns h));rw [show sub (bh f251) [1,1,1,1,1,1,1]=sub dI [1,1,1,1,1,1,1] by kernel_rfl];rw [n9,RT];exact l _
end
end Go.Proofs.YtmkljjbioomepaaGreat
namespace Go.lD
open Go.bn
def uH (sz:TypeId->Nat) (f:TypeId->Option (List Bool)):List Field->Nat->Option (List Bool)
 | [],off=>some []
 |fd::b,off=>match f fd.type with
  |some a=>match fd.name != "_" && (Nat.beq fd.offset off && Nat.beq (sz fd.type) a.length) with
   |true=>match uH sz f b (off+a.length) with
    |some r=>some (a++r)
    |none=>none
   |false=>none
  |none=>none
def lB (P:Program):Nat->TypeId->Option (List Bool)
 | 0,_=>none
 |d+1,t=>match P.underlying t with
  |some (.int _)=>some [false]
  |some .bool=>some [true]
  |some (.struct b)=>match P.stoodInHeld t with
   |true=>none
   |false=>uH (o9 P) (lB P d) b.toList 0
  |some (.array len e)=>match lB P d e with
   |some a=>match Nat.beq (o9 P e) a.length with
    |true=>some (List.replicate len a).flatten
    |false=>none
   |none=>none
  | _=>none
def DR:Bool->a0->a0->Prop
 |false,.int k _,.int j _=>k=j
 |true,.bool _,.bool _=>True
 | _,_,_=>False
def jS:List Bool->aw->aw->Prop
 | [],[],[]=>True
 |k::a,x::xs,y::ys=>DR k x y/\jS a xs ys
 | _,_,_=>False
def qR:a0->a0->Bool
 | .int _ a,.int _ b=>a == b
 | .bool a,.bool b=>a == b
 | _,_=>true
def hf:aw->aw->Bool
 |x::xs,y::ys=>qR x y && hf xs ys
 | _,_=>true
theorem jS.len:∀ {a:List Bool} {xs ys:aw},jS a xs ys->xs.length=a.length/\ys.length=a.length
 | [],[],[],_=>⟨rfl,rfl⟩
 | _::_,_::_,_::_,⟨_,h⟩=>by simp [jS.len h]
theorem jS.split:∀ {b ls:List Bool} {xs ys:aw},jS (b++ls) xs ys->jS b (xs.take b.length) (ys.take b.length)/\jS ls (xs.drop b.length) (ys.drop b.length)/\
  hf xs ys=(hf (xs.take b.length) (ys.take b.length) && hf (xs.drop b.length) (ys.drop b.length))
 | [],ls,xs,ys,h=>⟨trivial,h,rfl⟩
 |k::b,ls,x::xs,y::ys,⟨a,h⟩=>by obtain ⟨c,d,e⟩:=jS.split h;refine ⟨⟨a,c⟩,d,?_⟩;show (qR x y && hf xs ys)=((qR x y && hf (xs.take b.length) (ys.take b.length)) && hf (xs.drop b.length) (ys.drop b.length));rw [e,Bool.and_assoc]
theorem B9 {k:Bool}:∀ {xs ys:aw},jS [k] xs ys->∃ x y,xs=[x]/\ys=[y]/\DR k x y
 | [],[],h=>h.elim
 | [],_::_,h=>h.elim
 | _::_,[],h=>h.elim
 | [x],[y],h=>⟨x,y,rfl,rfl,h.1⟩
 | _::_::_,[_],h=>h.2.elim
 | [_],_::_::_,h=>h.2.elim
 | _::_::_,_::_::_,h=>h.2.elim
section
variable {P:Program}
def mm (P:Program) (t:TypeId) (xs:aw):a0:=if gB P t=true then .agg xs.toArray else xs.headD undef
theorem BM {t:TypeId} {i:TypeInfo} {b:TypeDesc} (g:P.info? t=some i) (aA:P.underlying t=some b) {cs:aw} {off n:Nat} (h:i.size=n) (k:off+n<=cs.length) (d:gB P t=false->n=1) (w:al) :
  (part t cs.toArray off).run P w=.ok (mm P t ((cs.drop off).take n)) w:=by
 unfold part mm;rw [Sem.run_bind,oC aA];simp only [Result.andThen_ok];split
 ·simp only [Sem.run_bind,bn.run_sizeOf g,Result.andThen_ok,Sem.run_pure,h];congr 2;apply Array.ext';simp [List.extract]
 ·rename_i e;have c:=d (by simpa using e);subst c;have a:off<cs.length:=by omega
  have j:(cs.drop off).take 1=[cs[off]]:=by rw [qa a];rfl
  have f:cs.toArray[off]?=some cs[off]:=by simp [a]
  rw [j];simp only [f];rfl
theorem AR {d:Nat} {t:TypeId} {n:List Bool} (h:lB P d t=some n):∃ i a,P.info? t=some i/\P.underlying t=some a:=by
 cases d with
 |zero=>cases h
 |succ d=>
  unfold lB at h;cases hu:P.underlying t with
  |none=>rw [hu] at h;cases h
  |some a=>
   cases b:P.info? t with
   |some i=>exact ⟨i,a,rfl,rfl⟩
   |none=>simp [Program.underlying,b] at hu
theorem F6 {d:Nat} {t:TypeId} {n:List Bool} (h:lB P d t=some n) (a:gB P t=false):n.length=1:=by
 cases d with
 |zero=>cases h
 |succ d=>
  unfold lB at h;unfold gB at a;split at h
  ·cases h;rfl
  ·cases h;rfl
  ·rename_i hu;rw [hu] at a;cases a
  ·rename_i hu;rw [hu] at a;cases a
  ·cases h
def uF (P:Program) (D:Nat) (t:TypeId) (a:List Bool):Prop:=∀ xs ys:aw,jS a xs ys->∀ w,(Op.equalIn D t (mm P t xs) (mm P t ys)).run P w=.ok (hf xs ys) w
theorem B_ {t:TypeId} {a:List Bool} {D off:Nat} {xs ys:aw} (aJ:uF P D t a) {i:TypeInfo} {d:TypeDesc} (f:P.info? t=some i) (aA:P.underlying t=some d) (j:i.size=a.length) (e:gB P t=false->a.length=1)
  (c:jS a ((xs.drop off).take a.length) ((ys.drop off).take a.length)) (w:al) {α:Type} (K:Bool->Sem α) :
  ((do K (<- Op.equalIn D t (<- part t xs.toArray off) (<- part t ys.toArray off))):Sem α).run P w=(K (hf ((xs.drop off).take a.length) ((ys.drop off).take a.length))).run P w:=by
 obtain ⟨b6,l2⟩:=c.len;rw [gR,jY] at b6 l2;cases h:a.length with
 |zero=>
  have:i.size=0:=by omega
  cases g:gB P t with
  |false=>have:=e g;omega
  |true=>
   have b:∀ cs:aw,(part t cs.toArray off).run P w=.ok (mm P t []) w:=by intro cs;unfold part mm;rw [Sem.run_bind,oC aA,g];simp only [Result.andThen_ok,if_true,Sem.run_bind,bn.run_sizeOf f,Sem.run_pure,this];congr 2;apply Array.ext';simp [List.extract]
   rw [h] at c;simp only [Sem.run_bind,b,Result.andThen_ok];rw [aJ [] [] c];rfl
 |succ n=>rw [<-h];simp only [Sem.run_bind,BM (cs:=xs) (off:=off) f aA j (by omega) e w,BM (cs:=ys) (off:=off) f aA j (by omega) e w,Result.andThen_ok];rw [aJ _ _ c];rfl
theorem AS {d D:Nat} (aJ:∀ t b,lB P d t=some b->uF P D t b) {xs ys:aw}:∀ (c:List Field) (off:Nat) (b:List Bool),uH (o9 P) (lB P d) c off=some b->jS b (xs.drop off) (ys.drop off)->
  ∀ w,(Op.eqFields D xs.toArray ys.toArray c).run P w=.ok (hf (xs.drop off) (ys.drop off)) w
 | [],off,b,h,f=>by cases h;intro w;have u:=f.len;rw [fb u.1];simp [Op.eqFields,hf]
 |fd::c,off,b,h,f=>by
  unfold uH at h;split at h
  rotate_left
  ·cases h
  rename_i a hm;split at h
  rotate_left
  ·cases h
  rename_i p;split at h
  rotate_left
  ·cases h
  rename_i l x;cases h;simp only [eH,bne_iff_ne,ne_eq] at p;obtain ⟨g,j,e⟩:=p;have j:fd.offset=off:=kp j;have e:o9 P fd.type=a.length:=kp e;obtain ⟨b8,n,o⟩:=f.split;rw [tR,tR] at n o;have y:=AS aJ c (off+a.length) l x n;intro w;obtain ⟨i,s,q,aA⟩:=AR hm;have k:i.size=a.length:=by unfold o9 at e;rw [q] at e;exact e
  unfold Op.eqFields;rw [if_pos (by simpa using g),j];have:=B_ (K:=λr=>if (!r)=true then pure false else Op.eqFields D xs.toArray ys.toArray c) (aJ _ _ hm) q aA k (F6 hm) b8 w;refine Eq.trans this ?_;rw [o];cases z:hf ((xs.drop off).take a.length) ((ys.drop off).take a.length) with
  |false=>rfl
  |true=>simp only [Bool.not_true,qe,if_false,Bool.true_and];exact y w
theorem BN {D:Nat} {e:TypeId} {b:List Bool} (aJ:uF P D e b) {i:TypeInfo} {f:TypeDesc} (n:P.info? e=some i) (aA:P.underlying e=some f) (o:i.size=b.length) (k:gB P e=false->b.length=1) {xs ys:aw} (w:al) :
  ∀ (l:d9) (a:Nat),l=List.range' a l.length->jS (List.replicate l.length b).flatten (xs.drop (a * b.length)) (ys.drop (a * b.length))->
   (forIn l ((none,()):Option Bool×Unit) (λi _=>do
    let r <- Op.equalIn D e (<- part e xs.toArray (i * b.length)) (<- part e ys.toArray (i * b.length))
    if (!r)=true then pure (ForInStep.done (some false,())) else pure (ForInStep.yield (none,()))):Sem (Option Bool×Unit)).run P w=.ok ((if hf (xs.drop (a * b.length)) (ys.drop (a * b.length))=true then none else some false),()) w
 | [],a,_,d=>by have p:=d.len;rw [fb p.1];simp [hf]
 |j::l,a,c,d=>by
  rw [fU,List.range'_succ] at c;simp only [List.cons.injEq] at c;obtain ⟨rfl,c⟩:=c;rw [fU,o6,hr] at d;obtain ⟨b8,g,h⟩:=d.split;rw [tR,tR,<-hK] at g h;rw [List.forIn_cons,Sem.run_bind];have:=B_ (K:=λr=>if (!r)=true then (pure (ForInStep.done (some false,())):Sem (ForInStep (Option Bool×Unit))) else pure (ForInStep.yield (none,()))) aJ n aA o k b8 w;rw [this,h];have q:=BN aJ n aA o k w l (j+1) c g;cases s:hf ((xs.drop (j * b.length)).take b.length) ((ys.drop (j * b.length)).take b.length) with
  |false=>rfl
  |true=>simp only [Bool.not_true,qe,if_false,Bool.true_and];exact q
theorem xS:∀ (d:Nat) (t:TypeId) (f:List Bool),lB P d t=some f->∀ D,d<=D->uF P D t f
 | 0,_,_,h=>by cases h
 |d+1,t,f,h=>by
  intro D A xs ys n w;obtain ⟨D,rfl⟩:∃ s,D=s+1:=⟨D - 1,by omega⟩;have g:d<=D:=by omega
  unfold lB at h;split at h
  ·rename_i k hu;cases h;have a:gB P t=false:=by unfold gB;rw [hu]
   obtain ⟨x,y,rfl,rfl,b⟩:=B9 n;unfold mm;rw [a];cases x<;>cases y<;>first | exact b.elim | skip
   have z:_=_:=b;subst z;refine (run_equalIn_int w D t _ k _ _ hu).trans ?_;simp [hf,qR]
  ·rename_i hu;cases h;have a:gB P t=false:=by unfold gB;rw [hu]
   obtain ⟨x,y,rfl,rfl,b⟩:=B9 n;unfold mm;rw [a];cases x<;>cases y<;>first | exact b.elim | skip
   refine (run_equalIn_bool' w D t _ _ hu).trans ?_;simp [hf,qR]
  ·rename_i q hu;split at h
   ·cases h
   rename_i p;have a:gB P t=true:=by unfold gB;rw [hu]
   have r:P.fieldsOf t=q:=by unfold Program.fieldsOf;rw [hu]
   have:=AS (λt f h=>xS d t f h D g) q.toList 0 f h n w;unfold mm;rw [if_pos a,if_pos a,run_equalIn_struct w D t _ _ (by rw [r];exact hu) p,r];exact this
  ·rename_i len e hu;split at h
   rotate_left
   ·cases h
   rename_i c hm;split at h
   rotate_left
   ·cases h
   rename_i j;cases h;have j:o9 P e=c.length:=kp j;obtain ⟨i,u,o,aA⟩:=AR hm;have l:i.size=c.length:=by unfold o9 at j;rw [o] at j;exact j
   have a:gB P t=true:=by unfold gB;rw [hu]
   have:=BN (xS d e c hm D g) o aA l (F6 hm) (xs:=xs) (ys:=ys) w (List.range' 0 len) 0 (by simp) (by simpa using n);unfold mm;rw [if_pos a,if_pos a];simp only [Op.equalIn,Sem.run_bind,run_underlying hu,Result.andThen_ok,bn.run_sizeOf o,l];simp only [tQ,tS] at this;rw [Std.Legacy.Range.forIn_eq_forIn_range'];simp only [Std.Legacy.Range.size,Nat.sub_zero,Nat.add_one_sub_one,Nat.div_one];rw [this];cases hf xs ys<;>rfl
  ·cases h
end
end Go.lD
namespace Go.Proofs.YtmkljjbioomepaaGreat
open Go.Proofs.Tryz Go.bn
section
theorem HZ {T:TypeId} {f:List Bool} (h:Go.lD.lB prog 8 T=some f) (d:gB prog T=true) (i:Program.eqGuardType prog (Program.depth prog) T=false) {xs ys:aw} (g:Go.lD.jS f xs ys) {K:Bool->Prop} (e:K (Go.lD.hf xs ys)) :
  uK prog T (.agg xs.toArray) (.agg ys.toArray) K:=by
 generalize c:Go.lD.hf xs ys=r at e;refine ⟨r,λw=>?_,e⟩
 have b:=Go.lD.xS 8 T _ h 10000 (by omega) xs ys g w;unfold Go.lD.mm at b;rw [if_pos d,if_pos d,c] at b;have a:(Op.equalIn 10000 T (.agg xs.toArray) (.agg ys.toArray)).run prog w=.ok r w:=b;cases r;all_goals exact ⟨λop x y=>run_eqGuard_agg w op T x y _ _ i,by rw [run_eql_struct,a];rfl,by rw [run_neq_struct,a];rfl⟩
theorem Lk:Go.lD.lB prog 8 eN=some [false,false,false,false,false,false,false,false,false]:=by kernel_rfl
theorem NE:gB prog eN=true:=by kernel_rfl
theorem Kl:Program.eqGuardType prog (Program.depth prog) eN=false:=by kernel_rfl
theorem xT (p q:aR):Go.lD.hf p.cells q.cells=true↔p=q:=by obtain ⟨a,b,c,d,e,f,g,h,i⟩:=p;obtain ⟨cg,b8,j,k,l,n,o,r,s⟩:=q;simp [aR.cells,Go.lD.hf,Go.lD.qR]
instance:DecidableEq aR:=λp q=>decidable_of_iff _ (xT p q)
theorem MN {w:al} {a b:an} {n m c d:Nat} {l l2:List aR} (E:bg w a (hz l).flatten) (I:n=l.length) (F:bg w b (hz l2).flatten) (hm:m=l2.length) (A:n<=1000000):ba 256 [.slice a n c,.slice b m d] w λv w'=>v=.bool (decide (l=l2))/\ai w w':=by
 refine bc Tryz.func256 ?_;rw [O0];refine dt (λe=>⟨?_,ao.refl _ _⟩) (λe=>?_)
 ·rw [decide_eq_false];intro r;subst r;omega
 have hlen:l.length=l2.length:=by omega
 refine c1 mix (λq env u=>∃ (i:Nat) (D:aw),q=l.length - i/\i<=l.length/\env=u2 a n c b m d n i D/\ai w u/\l.take i=l2.take i) l.length
  ⟨0,_,by omega,by omega,rfl,ao.refl _ _,rfl⟩ ?_
 rintro q env u ⟨i,D,rfl,J,rfl,k,C⟩;rw [OG];refine a9 (λH=>?_) (λG=>?_)
 ·rintro w1 o;have B:ai u w1:=by rw [o];exact cL _
  clear o;have f:=k.new B;have p:l[i]?=some l[i]:=bM (by omega);have g:l2[i]?=some (l2[i]'(by omega)):=bM (by omega);generalize l[i]=x at p;generalize l2[i]=y at g;refine ⟨λy=>ai w1 y,ao.refl _ _,?_⟩;refine j8 (cells:=aR.cells) aR.len (by decide) (E.new f) p rfl I λb1 K s=>aR.aS x ⟨λz au=>kD (i:=0) λj v h=>by simpa using s z au j v h,?_⟩
  refine j8 (cells:=aR.cells) aR.len (by decide) (F.new f) g rfl hm λaz L t=>aR.aS y ⟨λz au=>kD (i:=0) λj v h=>by simpa using t z au j v h,?_⟩
  refine HZ Lk NE Kl (xs:=x.cells) (ys:=y.cells) ⟨rfl,rfl,rfl,rfl,rfl,rfl,rfl,rfl,rfl,trivial⟩ ?_;refine dZ (λA=>⟨?_,f⟩) (λhe=>?_)
  ·rw [decide_eq_false];intro r;subst r;rw [p] at g;rw [(xT x y).2 (p_ g)] at A;cases A
  ·rw [bA (x:=(i:Int)+1) (by omega) (by omega)];refine ⟨l.length - (i+1),by omega,i+1,_,rfl,by omega,rfl,f,?_⟩;rw [eT,eT,C,p,g,(xT x y).1 he]
 ·rw [OT];refine ⟨?_,k⟩;rw [gb (by omega),gb (by omega)] at C;rw [decide_eq_true C]
def fx (L:a4) (lines:Int):Bool:=decide (L.length=120) && (d8 (L.drop 8) lines == 0)
def cI (L:a4) (lines:Int):Int×List aR:=if fx L lines=true then d' (L.drop 8) lines else (0,[])
def hF (L:a4) (lines:Int):Bool:=fx L lines && (eg (cI L lines).1 == L.getD 0 0)
def fB (L:a4) (lines:Int):Int×List aR:=if hF L lines=true then cI L lines else (0,[])
structure qq (w:al) (a:an) (n c:Nat) (L:a4):Prop where
 rd:bg w a (us L)
 len:n=L.length
 cap:n<=c
 u64:∀ x ∈ L,b3 x
 dM:n<=1000
theorem qq.new {w w':al} {a:an} {n c:Nat} {L:a4} (h:qq w a n c L) (b:ai w w'):qq w' a n c L:=⟨h.rd.new b,h.len,h.cap,h.u64,h.dM⟩
theorem eB.zero {w w':al} {R:Int×List aR} {last a:a0} (b:R=(0,[])) (d:a=last) (e:ai w w'):eB w R last (.tuple #[ib.val,a]) w':=by subst b d;exact ⟨none,0,rfl,e,xH _,λk c=>absurd c mM⟩
theorem ub {w:al} {a:an} {n c:Nat} {L:a4} (lines:Int) (h:qq w a n c L):ba 228 [.slice a n c,.int .i64 lines] w (eB w (cI L lines) (.bool (fx L lines))):=by
 refine bc Tryz.func228 ?_;rw [TQ];rintro b1 w1 t r;obtain ⟨f,g⟩:=bk t r;have f:av w1 b1 ib.cells dW:=f;clear r;have hlen:=h.len;have E:=h.cap;have F:=h.dM;refine dt (λe=>?_) (λe=>?_)
 ·have p:fx L lines=false:=by unfold fx;rw [decide_eq_false (by omega)];rfl
  refine n_ f rfl ib (K:=λres s=>eB w (cI L lines) (.bool (fx L lines)) (.tuple #[res.val,.bool false]) s) λP l _=>eB.zero ?_ ?_ (g.trans l λk y e=>by omega)
  ·unfold cI;rw [if_neg (by rw [p];simp)]
  ·rw [p]
 have z:n=120:=by omega
 obtain ⟨b,o,rfl⟩:∃ b o,a=some ⟨b,o,none⟩:=by
  rcases h.rd with e | ⟨b,o,e,_⟩
  ·have:=congrArg List.length e;rw [hg,nZ] at this;omega
  ·exact ⟨b,o,e⟩
 refine kc (by omega) (by omega) (by omega) (by omega) (by omega) λR C=>?_
 rcases C with rfl | ⟨e,_⟩;case inr=>omega
 have G:((n:Nat):Int).toNat - (8:Int).toNat=n - 8:=by simp
 have H:((c:Nat):Int).toNat - (8:Int).toNat=c - 8:=by simp
 rw [G,H];have B:bg w1 (some ⟨b,o+(8:Int).toNat * 1,none⟩) (us (L.drop 8)):=by have:=(h.rd.new g).drop 8;rwa [show (us L).drop 8=us (L.drop 8) by simp [us]] at this
 refine aD (Lj lines B (by rw [jY];omega) (by omega) (λx O=>h.u64 x (n1 O)) (by omega)) ?_;rintro v s ⟨aX,cap,rfl,j,d,q⟩;refine bN.aS ⟨(d' (L.drop 8) lines).1,aX,(d' (L.drop 8) lines).2.length,cap⟩ ⟨_,rfl,?_⟩;refine dU (vs:=bN.cells ⟨(d' (L.drop 8) lines).1,aX,(d' (L.drop 8) lines).2.length,cap⟩) rfl (bN.single _) λaz Q J D i=>?_
 refine bN.aS ⟨(d' (L.drop 8) lines).1,aX,(d' (L.drop 8) lines).2.length,cap⟩ ⟨bI D rfl,?_⟩;have p:fx L lines=(d8 (L.drop 8) lines == 0):=by unfold fx;rw [decide_eq_true (by omega)];rfl
 have I:cI L lines=d' (L.drop 8) lines:=by
  unfold cI;rw [p];split
  ·rfl
  ·rename_i A;unfold d';rw [if_neg (by simpa using A)]
 rw [I,p];have M:=g.size;have N:=j.size;refine n_ (ai.ak (j.new i) f) rfl ⟨(d' (L.drop 8) lines).1,aX,(d' (L.drop 8) lines).2.length,cap⟩ (K:=λres s=>eB w (d' (L.drop 8) lines) (.bool (d8 (L.drop 8) lines == 0)) (.tuple #[res.val,.bool (d8 (L.drop 8) lines == 0)]) s) λP l _=>?_
 exact ⟨aX,cap,rfl,((g.new j).new i).trans l λk y e=>by omega,⟨(d.new i).rd.ax l (g0 (d.new i).rd λk u e=>by have:=q k u;have:=f.lt;omega),d.len,d.dM,d.u64⟩,λk l=>by have:=q k l;omega⟩
theorem zn {w:al} {a:an} {n c:Nat} {L:a4} (lines:Int) (h:qq w a n c L):ba 246 [.slice a n c,.int .i64 lines] w (eB w (fB L lines) (.bool (hF L lines))):=by
 refine bc Tryz.func246 ?_;rw [Tb];rintro b1 w1 A s;obtain ⟨g,d⟩:=bk A s;have g:av w1 b1 ib.cells dW:=g;clear s;refine aD (ub lines (h.new d)) ?_;rintro v z ⟨aX,cap,rfl,p,f,r⟩;refine bN.aS ⟨(cI L lines).1,aX,(cI L lines).2.length,cap⟩ ⟨_,rfl,?_⟩;refine dU (vs:=bN.cells ⟨(cI L lines).1,aX,(cI L lines).2.length,cap⟩) rfl (bN.single _) λaz N P t j=>?_
 have R:=d.size;have S:=p.size;have b:=p.new j;have no:hF L lines=false->∀ {u:al},ai N u->dR u ⟨b1,0,none⟩ 0 ib.cells/\∀ x,x=cl u ⟨b1,0,none⟩ 0 ib.cells->bN.ex λres=>b7 x ⟨b1,0,none⟩ 0 res.cells/\x=x/\eB w (fB L lines) (.bool (hF L lines)) (.tuple #[res.val,.bool false]) x:=by intro J u q;refine n_ (ai.ak (b.new q) g) rfl ib (K:=λres z=>eB w (fB L lines) (.bool (hF L lines)) (.tuple #[res.val,.bool false]) z) λT l _=>eB.zero (if_neg (by rw [J];simp)) (by rw [J]) ((d.new (b.new q)).trans l λk E e=>by omega)
 refine dZ (λQ=>no (by unfold hF;rw [Q];rfl) (ao.refl _ _)) (λy=>⟨_,t.cell (i:=0) rfl,?_⟩);have hw:=y;unfold fx at hw;simp only [eH,decide_eq_true_eq,beq_iff_eq] at hw;have O:cI L lines=((L.drop 8).getD 0 0,hv (L.drop 8) ((L.drop 8).getD 1 0).toNat):=by unfold cI d';rw [if_pos y,if_pos hw.2]
 have G:1<=(cI L lines).1/\(cI L lines).1<1073741824:=by
  rw [O];have o:=hw.2;unfold d8 at o;split at o
  ·omega
  split at o
  ·omega
  split at o
  ·omega
  split at o
  ·omega
  rename_i _ _ _ H;have H:ff ((L.drop 8).getD 0 0) (hv (L.drop 8) ((L.drop 8).getD 1 0).toNat) lines=0:=by omega
  obtain ⟨_,M,_⟩:=jD H;exact ⟨M.1,M.2.1⟩
 refine aD (xX N G) ?_;rintro v U ⟨rfl,rfl⟩;refine ⟨_,_,rfl,m8 ((h.rd.new d).new b) (i:=0) (by omega) h.len rfl λc9 fC B=>⟨_,B _ (ao.refl _ _),dt (λF=>no ?_ (ao.refl _ _)) (λhe=>?_)⟩⟩
 ·unfold hF;rw [y,show (eg (cI L lines).1 == L.getD 0 0)=false from beq_eq_false_iff_ne.2 F];rfl
 have I:hF L lines=true:=by unfold hF;rw [y,show (eg (cI L lines).1 == L.getD 0 0)=true from beq_iff_eq.2 he];rfl
 have C:fB L lines=cI L lines:=if_pos I;rw [I,C];refine bN.aS ⟨(cI L lines).1,aX,(cI L lines).2.length,cap⟩ ⟨bI t rfl,?_⟩;refine n_ (ai.ak b g) rfl ⟨(cI L lines).1,aX,(cI L lines).2.length,cap⟩ (K:=λres z=>eB w (cI L lines) (.bool true) (.tuple #[res.val,.bool true]) z) λT l _=>?_
 exact ⟨aX,cap,rfl,(d.new b).trans l λk E e=>by omega,⟨(f.new j).rd.ax l (g0 (f.new j).rd λk D e=>by have:=r k D;have:=g.lt;omega),f.len,f.dM,f.u64⟩,λk l=>by have:=r k l;omega⟩
def x7 (a b:Int×List aR):Bool:=a.1 == b.1 && decide (a.2=b.2)
theorem MO {w:al} {p q:bN} {P Q:List aR} (h:eY w p.ef p.dF P) (o:eY w q.ef q.dF Q):ba 252 [p.val,q.val] w λv w'=>v=.bool (x7 (p.Seq,P) (q.Seq,Q))/\ai w w':=by
 refine bc Tryz.func252 ?_;rw [T8];rintro b1 w1 j e;obtain ⟨c,l⟩:=bk j e;have c:av w1 b1 p.cells dW:=c;clear e;rintro az r k f;obtain ⟨a,d⟩:=bk k f;have a:av r az q.cells dW:=a;clear f;have b:=ai.ak d c;have g:=l.new d;unfold x7;refine ⟨_,b.cell (i:=0) rfl,_,a.cell (i:=0) rfl,dJ (λhe=>⟨_,_,_,b.cell (i:=1) rfl,_,_,_,a.cell (i:=1) rfl,?_⟩) (λhe=>⟨?_,g⟩)⟩
 ·refine aD (MN (h.new g).rd h.len (o.new g).rd o.len (by have:=h.dM;have:=h.len;omega)) ?_;rintro v s ⟨rfl,n⟩;refine ⟨_,rfl,?_,g.new n⟩;simp [he]
 ·simp [he]
end
section
open IntKind
variable (w:al) (R:cp) {a b c:Nat} {i k l:Int} {s:an}
theorem QB (f:aO):bd prog f220 [a' a,f.val,ab i,ab k] R w=(aQ w f.cells.toArray 116 λh l=>aQ l #[ab 0,ab 0,ab 0,ab 0,ah 0,ah 0,a3,ah 0,ab 0] 158 λe g=>hX g (af h 0) λr=>eh 245 #[a' a,r.val,.agg #[ab 1,ab 0,ab i,ab k,ah 0,ah 0,a3,ah 0,ab 0]] g λc j=>a_ j (af e 0) 0 c.cells λd=>ln d (af e 0) λb=>d=d/\R b.val d):=by kernel_rfl
theorem QC:bd prog f221 [a' a,ae s b c] R w=(l0 w (af a 8) λt=>iX 116 #[.pointer t,ae s b c] w λe d f g k=>cond (!g) (R (.tuple #[a3,ad false]) k) (cm 242 #[ae e d f] k λh j=>cond (h != 0) (dm 222 #[a' a,ab h] j λi l=>R (.tuple #[a3,ad i]) l) (R (.tuple #[ae e d f,ad true]) j))):=by kernel_rfl
theorem QD:bd prog f222 [a' a,ab i] R w=(a_ w (af a 15) 0 [ab i,ab 0,ab 0,ab 0,ah 0] λb=>R (ad false) b):=by kernel_rfl
theorem Re (f:aO):bd prog f223 [a' a,f.val,ab i,ah k,ah l] R w=(aQ w f.cells.toArray 116 λh m=>aQ m #[ab 0,ab 0,ab 0,ab 0,ah 0,ah 0,a3,ah 0,ab 0] 158 λe g=>hX g (af h 0) λr=>eh 245 #[a' a,r.val,.agg #[ab 3,ab 0,ab i,ab 0,ah k,ah l,a3,ah 0,ab 0]] g λc j=>a_ j (af e 0) 0 c.cells λd=>ln d (af e 0) λb=>d=d/\R b.val d):=by kernel_rfl
theorem P1 (g:aO) (h:aF):bd prog f245 [a' a,g.val,h.val] R w=(aQ w g.cells.toArray 116 λl q=>aQ q h.cells.toArray 158 λk n=>aQ n #[ab 0,ab 0,ab 0,ab 0,ah 0,ah 0,a3,ah 0,ab 0] 158 λi o=>cu o λj f=>y_ f (af a 3) λd=>gO f (af l 0) λr=>EV f (af k 0) λm=>eh 241 #[d.val,r.val,ad true,m.val] j λb p=>a_ p (af i 0) 0 b.cells λe=>ln e (af i 0) λc=>e=e/\R c.val e):=by kernel_rfl
theorem Qc (h:aO):bd prog f250 [a' a,h.val,ab i,ae s b c] R w=(aQ w h.cells.toArray 116 λk m=>aQ m #[ab 0,ab 0,ab 0,ab 0,ah 0,ah 0,a3,ah 0,ab 0] 158 λg j=>hX j (af k 0) λr=>eh 245 #[a' a,r.val,.agg #[ab 2,ab 0,ab i,ab 0,ah 0,ah 0,ae s b c,ah 0,ab 0]] j λf l=>a_ l (af g 0) 0 f.cells λe=>ln e (af g 0) λd=>e=e/\R d.val e):=by kernel_rfl
end
end Go.Proofs.YtmkljjbioomepaaGreat
