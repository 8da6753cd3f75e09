import Derived.Test.YtmkljjbioomepaaGreatd24
import Derived.Test.YtmkljjbioomepaaGreatd01
import Derived.Laws.StructEq
import Derived.Test.YtmkljjbioomepaaGreatProg
import Derived.Test.YtmkljjbioomepaaGreatd03
set_option linter.all false
set_option maxHeartbeats 4000000
set_option maxRecDepth 100000
namespace Go.Proofs.YtmkljjbioomepaaGreat
open Go.Proofs.Tryz Go.bs
section
open Go.RowKit Go.Shelf
theorem Q3 {P:Program} {fn:Func} {R:cz} {ds:List Deferred} {e:Exit} {a:Act} {w:ak} (h:m5 ds (bI P fn R λ_ _ _=>False) e a w):m5 ds (dC P fn R) e a w:=by
 obtain ⟨d,env,rfl,b⟩:=mA h;cases e with
 |normal=>exact b.elim
 |ret=>exact g_ b d
 |panic c=>exact absurd rfl (d.1 c)
 |outgrown=>exact absurd rfl d.2
 |exit i=>exact b.elim
 |goto i=>exact b.elim
theorem El {aH:a8} (hu:∀ x ∈ aH,cj x) (n:Nat):∀ p ∈ hA aH n,cj p.Head:=by
 intro p a;obtain ⟨i,_,rfl⟩:=cZ.1 a;show cj (((aH.drop (2+9 * i)).take 9).getD 1 0);rw [dq];cases h:((aH.drop (2+9 * i)).take 9)[1]? with
 |none=>exact hq
 |some x=>exact hu x (o3 (tq (b5 h)))
theorem qT (aH:a8) (n:Nat):(hA aH n).length=n:=by simp [hA]
theorem Lg {w W:ak} {a:an} {N cB n:Nat} {aH:a8} {lines:Int} (XD:bk w a (us aH)) (X0:N=aH.length) (XZ:N<=cB) (hu:∀ x ∈ aH,cj x) (T:N<=1000) (XN:(aH.getD 1 0)=n) (XC:n<=12) (XM:98<=lines/\lines<=256) (hlen:3+9 * n<=aH.length) (XP:0<=aH.getD 0 0) (XQ:aH.getD 0 0<1073741824)
  {j L D cap:Nat} {a2:an} (J:av W j iZ.cells er) (B:av W L [.int .i64 (aH.getD 0 0),.slice a2 n cap] er) (XK:j≠L) (d:a1 W eu 9 a2 n cap (ia (hA aH n)).flatten) (H:∀ k,aL a2 k->k≠j/\w.heap.size<=k) (hw:ai w W) (XX:w.heap.size<=j) (XY:w.heap.size<=D) (f:W.heap[D]?=some (.deferred (some []))) (M:ax) :
  Go.bs.W prog (sub d_ [1,1,1,1,1,1,1]) (AE a N cB lines ⟨j,0,none⟩ ⟨L,0,none⟩ ((3+9 * n:Nat):Int) M) (bI prog f251 (λv u=>u.heap[D]?=some (.deferred (some []))/\eY w (ew aH lines) (.int .i64 (ek aH lines)) v (u.putObj D (.deferred none))) λ_ _ _=>False) W:=by
 have S:D≠j:=λe=>by rw [e,show W.heap[j]?=_ from J] at f;cases f
 have V:∀ k,aL a2 k->k≠D:=by
  intro k i e;obtain ⟨o,F⟩:=i;rcases d.2 with ⟨he,_⟩ | ⟨g,cur,he,XL,_⟩
  ·rw [he] at F;cases F
  ·rw [he] at F;simp at F;rw [<-e,<-F.1,show W.heap[g]?=_ from XL] at f;cases f
 have XF:∀ {u:ak},ao (λk=>k=j) W u->u.heap[D]?=some (.deferred (some []))/\ao (λk=>k=j\/k=D) W (u.putObj D (.deferred none))/\ai w (u.putObj D (.deferred none)):=by intro u i;have XJ:u.heap[D]?=some (.deferred (some [])):=(i.block D (vl.1 f).1 S).trans f;have XA:ao (λk=>k=j\/k=D) W (u.putObj D (.deferred none)):=(ao.mono i (λ_ _ h=>Or.inl h)).trans (sx (grownBy_putObj' u D (.deferred none))) (λk U e=>.inr (by simpa using e));exact ⟨XJ,XA,hw.trans XA λk U e=>by rcases e with e | e<;>omega⟩
 have E:(aH.getD 1 0).toNat=n:=by omega
 have O:ek aH lines=if fH (aH.getD 0 0) (hA aH n) lines≠0 then 14 else if fo (aH.getD 0 0) (hA aH n)≠aH.take (3+9 * n) then 14 else 0:=by unfold ek;rw [if_neg (λe=>e XM),if_neg (by omega),if_neg (by omega),E]
 have XI:ek aH lines=0->ew aH lines=(aH.getD 0 0,hA aH n):=λh=>by unfold ew;rw [if_pos h,E]
 rw [rt,Un];refine hj (fn:=f251) (R:=λv u=>u.heap[D]?=some (.deferred (some []))/\eY w (ew aH lines) (.int .i64 (ek aH lines)) v (u.putObj D (.deferred none))) (λ_ _=>rfl) ?_;rw [V0];rintro w1 I;have l:ai W w1:=by rw [I];exact cK _
 clear I;have q:fm w1 a2 n (hA aH n):=⟨(bk.new l d.rd),(qT aH n).symm,by rw [qT];omega,El hu n⟩;have XB:=ai.aj l B;have last:∀ (t:Bool) (u:ak),ai W u->(t=true->ek aH lines=14)->(t=false->ek aH lines=0)->∀ M,Go.bs.W prog (sub d_ [1,1,1,1,1,1,1,0,1]) (xD ⟨j,0,none⟩ ⟨L,0,none⟩ t M)
   (aZ (λenv Xx=>Go.bs.W prog (sub d_ [1,1,1,1,1,1,1,1]) env (bI prog f251 (λv u=>u.heap[D]?=some (.deferred (some []))/\eY w (ew aH lines) (.int .i64 (ek aH lines)) v (u.putObj D (.deferred none))) λ_ _ _=>False) Xx) (bI prog f251 (λv u=>u.heap[D]?=some (.deferred (some []))/\eY w (ew aH lines) (.int .i64 (ek aH lines)) v (u.putObj D (.deferred none))) λ_ _ _=>False)) u:=by
  intro t u z XR T M;refine hj (fn:=f251) (R:=λv u=>u.heap[D]?=some (.deferred (some []))/\eY w (ew aH lines) (.int .i64 (ek aH lines)) v (u.putObj D (.deferred none))) (λ_ _=>rfl) ?_;rw [V1];have au:=ai.aj z J;cases t with
  |true=>refine gB rfl (o_ au rfl iZ (K:=λres A=>A.heap[D]?=some (.deferred (some []))/\eY w (ew aH lines) (.int .i64 (ek aH lines)) (.tuple #[res.val,.int .i64 14]) (A.putObj D (.deferred none))) λXS i _=>?_);obtain ⟨P,Xz,Q⟩:=XF ((ao.b9 z).trans i λ_ _ e=>e);exact ⟨P,eY.no (XR rfl) (by decide) Q⟩
  |false=>
   refine di rfl (eT ?_);rw [V2];refine b0.aT ⟨aH.getD 0 0,a2,n,cap⟩ ⟨bO (ai.aj z B) rfl,?_⟩;refine o_ au rfl ⟨aH.getD 0 0,a2,n,cap⟩ (K:=λres A=>A.heap[D]?=some (.deferred (some []))/\eY w (ew aH lines) (.int .i64 (ek aH lines)) (.tuple #[res.val,.int .i64 0]) (A.putObj D (.deferred none))) λXS i _=>?_
   obtain ⟨P,Xz,Q⟩:=XF ((ao.b9 z).trans i λ_ _ e=>e);rw [XI (T rfl),T rfl];refine ⟨P,a2,cap,by rw [qT],Q,?_⟩;rw [qT];exact ⟨⟨d.rd.aA Xz (hk d.rd λk i e=>by rcases e with e | e;exact (H k i).1 e;exact V k i e),q.len,q.eB,q.u64⟩,λk i=>(H k i).2⟩
 refine ⟨λy=>ai w1 y,ao.refl _ _,b0.aT ⟨aH.getD 0 0,a2,n,cap⟩ ⟨λu hu=>bO (ai.aj hu XB) rfl,?_⟩⟩;refine aD (yy (r:=⟨aH.getD 0 0,a2,n,cap⟩) q lines) ?_;rintro v A ⟨rfl,c⟩;refine ⟨_,rfl,c,du (λhe=>?_) (λhe=>b0.aT ⟨aH.getD 0 0,a2,n,cap⟩ ⟨λu hu=>bO (ai.aj hu XB) rfl,?_⟩)⟩
 ·exact eT (last true A (l.new c) (λ_=>by rw [O,if_pos he]) (λh=>by cases h) _)
 have al:fH (aH.getD 0 0) (hA aH n) lines=0:=he;obtain ⟨_,XE,X,_⟩:=jy al;have Y:=XD.new (hw.new (l.new c));obtain ⟨b,o,rfl⟩:∃ b o,a=some ⟨b,o,none⟩:=by
  rcases XD with e | ⟨b,o,e,_⟩
  ·have:=congrArg List.length e;rw [hO,qd] at this;omega
  ·exact ⟨b,o,e⟩
 refine kM (by omega) (by omega) (by omega) (by omega) (by omega) λXV Xv=>?_
 have Xw:XV=some ⟨b,o,none⟩:=by
  rcases Xv with h | ⟨h,_⟩
  ·simpa using h
  ·omega
 subst Xw;refine aD (yU (r:=⟨aH.getD 0 0,a2,n,cap⟩) (q.new c) (Bc al) ⟨XE.1,XE.2.1⟩ (by rw [qT];omega) (λp XO=>by have:=X p XO;omega)) ?_;rintro v XT ⟨XW,Xy,rfl,s,G,_⟩;rw [qT] at G ⊢;refine ⟨_,_,_,rfl,c.new s,?_⟩;have XG:((3+9 * n:Nat):Int).toNat - (0:Int).toNat=3+9 * n:=by omega
 have XH:((cB:Nat):Int).toNat - (0:Int).toNat=cB:=by simp
 rw [XG,XH];have Z:bk XT (some ⟨b,o,none⟩) (us (aH.take (3+9 * n))):=by have:=(Y.new s).take (3+9 * n);rwa [show (us aH).take (3+9 * n)=us (aH.take (3+9 * n)) by simp [us]] at this
 refine aD (Q2 G.rd (by rw [pD,qT]) Z (by rw [iG];omega) (by omega)) ?_;rintro v XU ⟨rfl,C⟩;refine ⟨_,rfl,(c.new s).new C,eT (last _ XU (((l.new c).new s).new C) (λh=>?_) (λh=>?_) _)⟩
 ·have h:¬ fo (aH.getD 0 0) (hA aH n)=aH.take (3+9 * n):=by simpa using h
  rw [O,if_neg (λe=>e al),if_pos h]
 ·have h:fo (aH.getD 0 0) (hA aH n)=aH.take (3+9 * n):=by simpa using h
  rw [O,if_neg (λe=>e al),if_neg (λe=>e h)]
theorem M8 {w:ak} {a:an} {d cB:Nat} {aH:a8} (lines:Int) (Z:bk w a (us aH)) (X:d=aH.length) (T:d<=cB) (hu:∀ x ∈ aH,cj x) (U:d<=1000) :
  bb 251 [.slice a d cB,.int .i64 lines] w (eY w (ew aH lines) (.int .i64 (ek aH lines))):=by
 refine (callsIn_wide (n:=3)).1 ?_;refine callsIn_of_wp_marks (c:=bn f251) Tryz.func251 (by kernel_rfl) trivial ?_ rfl;suffices Xy:∀ x:Act,x=act ((.slice a d cB)::(.int .i64 lines)::(bD 72 []))->Code.wpIn Fence.wide 3 prog (bn f251) (bodyPostM Fence.wide 3 prog f251 λe w'=>∃ v,e=.returned v/\eY w (ew aH lines) (.int .i64 (ek aH lines)) v w') x w from Xy _ (by kernel_rfl)
 rintro _ rfl;refine OZ mix BR (ds:=[]) [1,1,1,1,1,1,0,1,0] _ _ _ _ _ (by kernel_rfl) (Lf lines Z X T hu U) ?_ (λe x u h=>MI (λv al=>⟨v,rfl,al⟩) (MJ h));intro env u C;have C:sd w a d cB aH lines (aH.getD 1 0).toNat w.heap.size env u/\(98<=lines/\lines<=256)/\3+9 * (aH.getD 1 0).toNat<=aH.length/\0<=aH.getD 0 0/\aH.getD 0 0<1073741824/\0<=aH.getD 1 0/\aH.getD 1 0<=12:=C;obtain ⟨⟨⟨Q,f,g,i,b2,Xv,rfl,E,t,O,G,H,j,XA,b,s⟩,y,hw,Xw⟩,Xx,hlen,L,M,I,Y⟩:=C;obtain ⟨n,J⟩:=p8 I;have p:(aH.getD 1 0).toNat=n:=by omega
 rw [p] at t b hlen s;rw [show sub (bn f251) [1,1,1,1,1,1,0,1,0]=.rangeFunc (.tmp 50) #[51] (sub (bn f251) [1,1,1,1,1,1,0,1,0,0]) (.block 1 (sub (bn f251) [1,1,1,1,1,1,0,1,0,1,0])) by kernel_rfl];have F:∀ A,rH Fence.wide 3 prog (bn f251) [1,1,1,1,1,1,0,1,0] A=Exit.inBlock 0 (Exit.then (λa w=>(sub (bn f251) [1,1,1,1,1,1,1]).wpIn Fence.wide 3 prog A a w) A):=λA=>by kernel_rfl
 rw [F,p];refine JM u w.heap.size Q f g (aH.getD 0 0) ((3+9 * n:Nat):Int) lines aH n d cB i a b2 Xv (by omega) E t O G H b s (by omega) hu _ ?_;intro D W ys XB P S B;rw [P] at S;obtain ⟨⟨a2,cap,q,r,K⟩,o⟩:=S;rw [lJ] at q r;have z:=o.aj y (λe=>j e);have N:ai w W:=hw.trans o λk V e=>by omega
 have Xz:=hw.size;have l:=Lg (lines:=lines) Z X T hu U J (by omega) Xx hlen L M z q j r (λk V=>by have:=K k V;have:=y.lt;omega) N Xw (by omega) B;show Code.wpIn Fence.wide 3 prog (sub (bn f251) [1,1,1,1,1,1,1]) (bodyPostM Fence.wide 3 prog f251 λe w'=>∃ v,e=.returned v/\eY w (ew aH lines) (.int .i64 (ek aH lines)) v w') (mn [{ target:=.collected D,args:=#[] }] (o9 a d cB lines w.heap.size Q ((3+9 * n:Nat):Int) undef f g undef Xv)) W;refine wpIn_mono (nv mix BR (ds:=[{ target:=.collected D,args:=#[] }]) _ _ _ W (by kernel_rfl) ?_) (λe x u h=>M5 (R:=λv u=>u.heap[D]?=some (.deferred (some []))/\eY w (ew aH lines) (.int .i64 (ek aH lines)) v (u.putObj D (.deferred none))) (λv al=>⟨al.1,v,rfl,al.2⟩) (Q3 h));rw [show sub (bn f251) [1,1,1,1,1,1,1]=sub d_ [1,1,1,1,1,1,1] by kernel_rfl];rw [o9,Um];exact l _
end
end Go.Proofs.YtmkljjbioomepaaGreat
namespace Go.jb
open Go.bs
def Fd (sz:TypeId->Nat) (f:TypeId->Option (List Bool)):List Field->Nat->Option (List Bool)
 | [],off=>some []
 |fd::b,off=>match f fd.type with
  |some a=>match fd.name != "_" && (Nat.beq fd.offset off && Nat.beq (sz fd.type) a.length) with
   |true=>match Fd sz f b (off+a.length) with
    |some r=>some (a++r)
    |none=>none
   |false=>none
  |none=>none
def kZ (P:Program):Nat->TypeId->Option (List Bool)
 | 0,_=>none
 |d+1,t=>match P.underlying t with
  |some (.int _)=>some [false]
  |some .bool=>some [true]
  |some (.struct b)=>match P.stoodInHeld t with
   |true=>none
   |false=>Fd (qf P) (kZ P d) b.toList 0
  |some (.array len e)=>match kZ P d e with
   |some a=>match Nat.beq (qf P e) a.length with
    |true=>some (List.replicate len a).flatten
    |false=>none
   |none=>none
  | _=>none
def FN:Bool->a4->a4->Prop
 |false,.int k _,.int j _=>k=j
 |true,.bool _,.bool _=>True
 | _,_,_=>False
def j4:List Bool->ax->ax->Prop
 | [],[],[]=>True
 |k::a,x::xs,y::ys=>FN k x y/\j4 a xs ys
 | _,_,_=>False
def qL:a4->a4->Bool
 | .int _ a,.int _ b=>a == b
 | .bool a,.bool b=>a == b
 | _,_=>true
def hi:ax->ax->Bool
 |x::xs,y::ys=>qL x y && hi xs ys
 | _,_=>true
theorem j4.len:∀ {a:List Bool} {xs ys:ax},j4 a xs ys->xs.length=a.length/\ys.length=a.length
 | [],[],[],_=>⟨rfl,rfl⟩
 | _::_,_::_,_::_,⟨_,h⟩=>by simp [j4.len h]
theorem j4.split:∀ {b ls:List Bool} {xs ys:ax},j4 (b++ls) xs ys->j4 b (xs.take b.length) (ys.take b.length)/\j4 ls (xs.drop b.length) (ys.drop b.length)/\
  hi xs ys=(hi (xs.take b.length) (ys.take b.length) && hi (xs.drop b.length) (ys.drop b.length))
 | [],ls,xs,ys,h=>⟨trivial,h,rfl⟩
 |k::b,ls,x::xs,y::ys,⟨a,h⟩=>by obtain ⟨c,d,e⟩:=j4.split h;refine ⟨⟨a,c⟩,d,?_⟩;show (qL x y && hi xs ys)=((qL x y && hi (xs.take b.length) (ys.take b.length)) && hi (xs.drop b.length) (ys.drop b.length));rw [e,Bool.and_assoc]
theorem Em {k:Bool}:∀ {xs ys:ax},j4 [k] xs ys->∃ x y,xs=[x]/\ys=[y]/\FN k x y
 | [],[],h=>h.elim
 | [],_::_,h=>h.elim
 | _::_,[],h=>h.elim
 | [x],[y],h=>⟨x,y,rfl,rfl,h.1⟩
 | _::_::_,[_],h=>h.2.elim
 | [_],_::_::_,h=>h.2.elim
 | _::_::_,_::_::_,h=>h.2.elim
section
variable {P:Program}
def lM (P:Program) (t:TypeId) (xs:ax):a4:=if gU P t=true then .agg xs.toArray else xs.headD undef
theorem Dz {t:TypeId} {i:TypeInfo} {b:TypeDesc} (g:P.info? t=some i) (aq:P.underlying t=some b) {cs:ax} {off n:Nat} (h:i.size=n) (k:off+n<=cs.length) (d:gU P t=false->n=1) (w:ak) :
  (part t cs.toArray off).run P w=.ok (lM P t ((cs.drop off).take n)) w:=by
 unfold part lM;rw [Sem.run_bind,pz aq];simp only [Result.andThen_ok];split
 ·simp only [Sem.run_bind,bs.run_sizeOf g,Result.andThen_ok,Sem.run_pure,h];congr 2;apply Array.ext';simp [List.extract]
 ·rename_i e;have c:=d (by simpa using e);subst c;have a:off<cs.length:=by omega
  have j:(cs.drop off).take 1=[cs[off]]:=by rw [oZ a];rfl
  have f:cs.toArray[off]?=some cs[off]:=by simp [a]
  rw [j];simp only [f];rfl
theorem B_ {d:Nat} {t:TypeId} {n:List Bool} (h:kZ P d t=some n):∃ i a,P.info? t=some i/\P.underlying t=some a:=by
 cases d with
 |zero=>cases h
 |succ d=>
  unfold kZ at h;cases hu:P.underlying t with
  |none=>rw [hu] at h;cases h
  |some a=>
   cases b:P.info? t with
   |some i=>exact ⟨i,a,rfl,rfl⟩
   |none=>simp [Program.underlying,b] at hu
theorem Ia {d:Nat} {t:TypeId} {n:List Bool} (h:kZ P d t=some n) (a:gU P t=false):n.length=1:=by
 cases d with
 |zero=>cases h
 |succ d=>
  unfold kZ at h;unfold gU at a;split at h
  ·cases h;rfl
  ·cases h;rfl
  ·rename_i hu;rw [hu] at a;cases a
  ·rename_i hu;rw [hu] at a;cases a
  ·cases h
def wc (P:Program) (D:Nat) (t:TypeId) (a:List Bool):Prop:=∀ xs ys:ax,j4 a xs ys->∀ w,(Op.equalIn D t (lM P t xs) (lM P t ys)).run P w=.ok (hi xs ys) w
theorem En {t:TypeId} {a:List Bool} {D off:Nat} {xs ys:ax} (ay:wc P D t a) {i:TypeInfo} {d:TypeDesc} (f:P.info? t=some i) (aq:P.underlying t=some d) (j:i.size=a.length) (e:gU P t=false->a.length=1)
  (c:j4 a ((xs.drop off).take a.length) ((ys.drop off).take a.length)) (w:ak) {α:Type} (K:Bool->Sem α) :
  ((do K (<- Op.equalIn D t (<- part t xs.toArray off) (<- part t ys.toArray off))):Sem α).run P w=(K (hi ((xs.drop off).take a.length) ((ys.drop off).take a.length))).run P w:=by
 obtain ⟨c9,l2⟩:=c.len;rw [iG,lH] at c9 l2;cases h:a.length with
 |zero=>
  have:i.size=0:=by omega
  cases g:gU P t with
  |false=>have:=e g;omega
  |true=>
   have b:∀ cs:ax,(part t cs.toArray off).run P w=.ok (lM P t []) w:=by intro cs;unfold part lM;rw [Sem.run_bind,pz aq,g];simp only [Result.andThen_ok,if_true,Sem.run_bind,bs.run_sizeOf f,Sem.run_pure,this];congr 2;apply Array.ext';simp [List.extract]
   rw [h] at c;simp only [Sem.run_bind,b,Result.andThen_ok];rw [ay [] [] c];rfl
 |succ n=>rw [<-h];simp only [Sem.run_bind,Dz (cs:=xs) (off:=off) f aq j (by omega) e w,Dz (cs:=ys) (off:=off) f aq j (by omega) e w,Result.andThen_ok];rw [ay _ _ c];rfl
theorem Ca {d D:Nat} (ay:∀ t b,kZ P d t=some b->wc P D t b) {xs ys:ax}:∀ (c:List Field) (off:Nat) (b:List Bool),Fd (qf P) (kZ P d) c off=some b->j4 b (xs.drop off) (ys.drop off)->
  ∀ w,(Op.eqFields D xs.toArray ys.toArray c).run P w=.ok (hi (xs.drop off) (ys.drop off)) w
 | [],off,b,h,f=>by cases h;intro w;have u:=f.len;rw [fF u.1];simp [Op.eqFields,hi]
 |fd::c,off,b,h,f=>by
  unfold Fd at h;split at h
  rotate_left
  ·cases h
  rename_i a hm;split at h
  rotate_left
  ·cases h
  rename_i o;split at h
  rotate_left
  ·cases h
  rename_i l x;cases h;simp only [ep,bne_iff_ne,ne_eq] at o;obtain ⟨g,j,e⟩:=o;have j:fd.offset=off:=kW j;have e:qf P fd.type=a.length:=kW e;obtain ⟨q,g9,n⟩:=f.split;rw [vw,vw] at g9 n;have y:=Ca ay c (off+a.length) l x g9;intro w;obtain ⟨i,s,p,aq⟩:=B_ hm;have k:i.size=a.length:=by unfold qf at e;rw [p] at e;exact e
  unfold Op.eqFields;rw [if_pos (by simpa using g),j];have:=En (K:=λr=>if (!r)=true then pure false else Op.eqFields D xs.toArray ys.toArray c) (ay _ _ hm) p aq k (Ia hm) q w;refine Eq.trans this ?_;rw [n];cases z:hi ((xs.drop off).take a.length) ((ys.drop off).take a.length) with
  |false=>rfl
  |true=>simp only [Bool.not_true,ry,if_false,vD];exact y w
theorem DA {D:Nat} {e:TypeId} {b:List Bool} (ay:wc P D e b) {i:TypeInfo} {f:TypeDesc} (k:P.info? e=some i) (aq:P.underlying e=some f) (n:i.size=b.length) (h:gU P e=false->b.length=1) {xs ys:ax} (w:ak) :
  ∀ (l:cT) (a:Nat),l=List.range' a l.length->j4 (List.replicate l.length b).flatten (xs.drop (a * b.length)) (ys.drop (a * b.length))->
   (forIn l ((none,()):Option Bool×Unit) (λi _=>do
    let r <- Op.equalIn D e (<- part e xs.toArray (i * b.length)) (<- part e ys.toArray (i * b.length))
    if (!r)=true then pure (ForInStep.done (some false,())) else pure (ForInStep.yield (none,()))):Sem (Option Bool×Unit)).run P w=.ok ((if hi (xs.drop (a * b.length)) (ys.drop (a * b.length))=true then none else some false),()) w
 | [],a,_,d=>by have p:=d.len;rw [fF p.1];simp [hi]
 |j::l,a,c,d=>by
  rw [hh,List.range'_succ] at c;simp only [List.cons.injEq] at c;obtain ⟨rfl,c⟩:=c;rw [hh,rq,hg] at d;obtain ⟨o,g9,g⟩:=d.split;rw [vw,vw,<-h2] at g9 g;rw [List.forIn_cons,Sem.run_bind];have:=En (K:=λr=>if (!r)=true then (pure (ForInStep.done (some false,())):Sem (ForInStep (Option Bool×Unit))) else pure (ForInStep.yield (none,()))) ay k aq n h o w;rw [this,g];have q:=DA ay k aq n h w l (j+1) c g9;cases s:hi ((xs.drop (j * b.length)).take b.length) ((ys.drop (j * b.length)).take b.length) with
  |false=>rfl
  |true=>simp only [Bool.not_true,ry,if_false,vD];exact q
theorem wk:∀ (d:Nat) (t:TypeId) (f:List Bool),kZ P d t=some f->∀ D,d<=D->wc P D t f
 | 0,_,_,h=>by cases h
 |d+1,t,f,h=>by
  intro D A xs ys n w;obtain ⟨D,rfl⟩:∃ s,D=s+1:=⟨D - 1,by omega⟩;have g:d<=D:=by omega
  unfold kZ at h;split at h
  ·rename_i k hu;cases h;have a:gU P t=false:=by unfold gU;rw [hu]
   obtain ⟨x,y,rfl,rfl,b⟩:=Em n;unfold lM;rw [a];cases x<;>cases y<;>first | exact b.elim | skip
   have z:_=_:=b;subst z;refine (run_equalIn_int w D t _ k _ _ hu).trans ?_;simp [hi,qL]
  ·rename_i hu;cases h;have a:gU P t=false:=by unfold gU;rw [hu]
   obtain ⟨x,y,rfl,rfl,b⟩:=Em n;unfold lM;rw [a];cases x<;>cases y<;>first | exact b.elim | skip
   refine (run_equalIn_bool' w D t _ _ hu).trans ?_;simp [hi,qL]
  ·rename_i q hu;split at h
   ·cases h
   rename_i p;have a:gU P t=true:=by unfold gU;rw [hu]
   have r:P.fieldsOf t=q:=by unfold Program.fieldsOf;rw [hu]
   have:=Ca (λt f h=>wk d t f h D g) q.toList 0 f h n w;unfold lM;rw [if_pos a,if_pos a,run_equalIn_struct w D t _ _ (by rw [r];exact hu) p,r];exact this
  ·rename_i len e hu;split at h
   rotate_left
   ·cases h
   rename_i c hm;split at h
   rotate_left
   ·cases h
   rename_i j;cases h;have j:qf P e=c.length:=kW j;obtain ⟨i,u,o,aq⟩:=B_ hm;have l:i.size=c.length:=by unfold qf at j;rw [o] at j;exact j
   have a:gU P t=true:=by unfold gU;rw [hu]
   have:=DA (wk d e c hm D g) o aq l (Ia hm) (xs:=xs) (ys:=ys) w (List.range' 0 len) 0 (by simp) (by simpa using n);unfold lM;rw [if_pos a,if_pos a];simp only [Op.equalIn,Sem.run_bind,run_underlying hu,Result.andThen_ok,bs.run_sizeOf o,l];simp only [vu,vx] at this;rw [Std.Legacy.Range.forIn_eq_forIn_range'];simp only [Std.Legacy.Range.size,Nat.sub_zero,Nat.add_one_sub_one,Nat.div_one];rw [this];cases hi xs ys<;>rfl
  ·cases h
end
end Go.jb
namespace Go.Proofs.YtmkljjbioomepaaGreat
open Go.Proofs.Tryz Go.bs
section
theorem JN {T:TypeId} {f:List Bool} (h:Go.jb.kZ prog 8 T=some f) (d:gU prog T=true) (i:Program.eqGuardType prog (Program.depth prog) T=false) {xs ys:ax} (g:Go.jb.j4 f xs ys) {K:Bool->Prop} (e:K (Go.jb.hi xs ys)) :
  rW prog T (.agg xs.toArray) (.agg ys.toArray) K:=by
 generalize c:Go.jb.hi xs ys=r at e;refine ⟨r,λw=>?_,e⟩
 have b:=Go.jb.wk 8 T _ h 10000 (by omega) xs ys g w;unfold Go.jb.lM at b;rw [if_pos d,if_pos d,c] at b;have a:(Op.equalIn 10000 T (.agg xs.toArray) (.agg ys.toArray)).run prog w=.ok r w:=b;cases r;all_goals exact ⟨λop x y=>run_eqGuard_agg w op T x y _ _ i,by rw [run_eql_struct,a];rfl,by rw [run_neq_struct,a];rfl⟩
theorem M9:Go.jb.kZ prog 8 eu=some [false,false,false,false,false,false,false,false,false]:=by kernel_rfl
theorem O0:gU prog eu=true:=by kernel_rfl
theorem ML:Program.eqGuardType prog (Program.depth prog) eu=false:=by kernel_rfl
theorem zK (p q:aK):Go.jb.hi p.cells q.cells=true↔p=q:=by obtain ⟨a,b,b2,c,d,e,f,g,h⟩:=p;obtain ⟨cB,i,g9,j,k,l,n,o,r⟩:=q;simp [aK.cells,Go.jb.hi,Go.jb.qL]
instance:DecidableEq aK:=λp q=>decidable_of_iff _ (zK p q)
theorem O1 {w:ak} {a b:an} {n m c d:Nat} {l l2:List aK} (E:bk w a (ia l).flatten) (I:n=l.length) (F:bk w b (ia l2).flatten) (hm:m=l2.length) (A:n<=1000000):bb 256 [.slice a n c,.slice b m d] w λv w'=>v=.bool (decide (l=l2))/\ai w w':=by
 refine bd Tryz.func256 ?_;rw [RV];refine du (λe=>⟨?_,ao.refl _ _⟩) (λe=>?_)
 ·rw [decide_eq_false];intro r;subst r;omega
 have hlen:l.length=l2.length:=by omega
 refine c8 mix (λq env u=>∃ (i:Nat) (D:ax),q=l.length - i/\i<=l.length/\env=wT a n c b m d n i D/\ai w u/\l.take i=l2.take i) l.length
  ⟨0,_,by omega,by omega,rfl,ao.refl _ _,rfl⟩ ?_
 rintro q env u ⟨i,D,rfl,J,rfl,k,C⟩;rw [RC];refine bc (λH=>?_) (λG=>?_)
 ·rintro w1 o;have B:ai u w1:=by rw [o];exact cK _
  clear o;have f:=k.new B;have p:l[i]?=some l[i]:=bE (by omega);have g:l2[i]?=some (l2[i]'(by omega)):=bE (by omega);generalize l[i]=x at p;generalize l2[i]=y at g;refine ⟨λy=>ai w1 y,ao.refl _ _,?_⟩;refine jj (cells:=aK.cells) aK.len (by decide) (E.new f) p rfl I λb1 K s=>aK.aT x ⟨λz au=>k8 (i:=0) λj v h=>by simpa using s z au j v h,?_⟩
  refine jj (cells:=aK.cells) aK.len (by decide) (F.new f) g rfl hm λaB L t=>aK.aT y ⟨λz au=>k8 (i:=0) λj v h=>by simpa using t z au j v h,?_⟩
  refine JN M9 O0 ML (xs:=x.cells) (ys:=y.cells) ⟨rfl,rfl,rfl,rfl,rfl,rfl,rfl,rfl,rfl,trivial⟩ ?_;refine ev (λA=>⟨?_,f⟩) (λhe=>?_)
  ·rw [decide_eq_false];intro r;subst r;rw [p] at g;rw [(zK x y).2 (me g)] at A;cases A
  ·rw [bH (x:=(i:Int)+1) (by omega) (by omega)];refine ⟨l.length - (i+1),by omega,i+1,_,rfl,by omega,rfl,f,?_⟩;rw [ff,ff,C,p,g,(zK x y).1 he]
 ·rw [RF];refine ⟨?_,k⟩;rw [h1 (by omega),h1 (by omega)] at C;rw [decide_eq_true C]
def fU (L:a8) (lines:Int):Bool:=decide (L.length=120) && (ek (L.drop 8) lines == 0)
def c1 (L:a8) (lines:Int):Int×List aK:=if fU L lines=true then ew (L.drop 8) lines else (0,[])
def gx (L:a8) (lines:Int):Bool:=fU L lines && (fX (c1 L lines).1 == L.getD 0 0)
def fp (L:a8) (lines:Int):Int×List aK:=if gx L lines=true then c1 L lines else (0,[])
structure r2 (w:ak) (a:an) (n c:Nat) (L:a8):Prop where
 rd:bk w a (us L)
 len:n=L.length
 cap:n<=c
 u64:∀ x ∈ L,cj x
 eB:n<=1000
theorem r2.new {w w':ak} {a:an} {n c:Nat} {L:a8} (h:r2 w a n c L) (b:ai w w'):r2 w' a n c L:=⟨h.rd.new b,h.len,h.cap,h.u64,h.eB⟩
theorem eY.zero {w w':ak} {R:Int×List aK} {last a:a4} (b:R=(0,[])) (d:a=last) (e:ai w w'):eY w R last (.tuple #[iZ.val,a]) w':=by subst b d;exact ⟨none,0,rfl,e,zo _,λk c=>absurd c nO⟩
theorem vL {w:ak} {a:an} {n c:Nat} {L:a8} (lines:Int) (h:r2 w a n c L):bb 228 [.slice a n c,.int .i64 lines] w (eY w (c1 L lines) (.bool (fU L lines))):=by
 refine bd Tryz.func228 ?_;rw [Xm];rintro b1 w1 t r;obtain ⟨f,g⟩:=bl t r;have f:av w1 b1 iZ.cells er:=f;clear r;have hlen:=h.len;have E:=h.cap;have F:=h.eB;refine du (λe=>?_) (λe=>?_)
 ·have p:fU L lines=false:=by unfold fU;rw [decide_eq_false (by omega)];rfl
  refine o_ f rfl iZ (K:=λres s=>eY w (c1 L lines) (.bool (fU L lines)) (.tuple #[res.val,.bool false]) s) λP l _=>eY.zero ?_ ?_ (g.trans l λk y e=>by omega)
  ·unfold c1;rw [if_neg (by rw [p];simp)]
  ·rw [p]
 have z:n=120:=by omega
 obtain ⟨b,o,rfl⟩:∃ b o,a=some ⟨b,o,none⟩:=by
  rcases h.rd with e | ⟨b,o,e,_⟩
  ·have:=congrArg List.length e;rw [hO,qd] at this;omega
  ·exact ⟨b,o,e⟩
 refine kM (by omega) (by omega) (by omega) (by omega) (by omega) λR C=>?_
 rcases C with rfl | ⟨e,_⟩;case inr=>omega
 have G:((n:Nat):Int).toNat - (8:Int).toNat=n - 8:=by simp
 have H:((c:Nat):Int).toNat - (8:Int).toNat=c - 8:=by simp
 rw [G,H];have B:bk w1 (some ⟨b,o+(8:Int).toNat * 1,none⟩) (us (L.drop 8)):=by have:=(h.rd.new g).drop 8;rwa [show (us L).drop 8=us (L.drop 8) by simp [us]] at this
 refine aD (M8 lines B (by rw [lH];omega) (by omega) (λx O=>h.u64 x (o3 O)) (by omega)) ?_;rintro v s ⟨a2,cap,rfl,j,d,q⟩;refine b0.aT ⟨(ew (L.drop 8) lines).1,a2,(ew (L.drop 8) lines).2.length,cap⟩ ⟨_,rfl,?_⟩;refine ec (vs:=b0.cells ⟨(ew (L.drop 8) lines).1,a2,(ew (L.drop 8) lines).2.length,cap⟩) rfl (b0.single _) λaB Q J D i=>?_
 refine b0.aT ⟨(ew (L.drop 8) lines).1,a2,(ew (L.drop 8) lines).2.length,cap⟩ ⟨bO D rfl,?_⟩;have p:fU L lines=(ek (L.drop 8) lines == 0):=by unfold fU;rw [decide_eq_true (by omega)];rfl
 have I:c1 L lines=ew (L.drop 8) lines:=by
  unfold c1;rw [p];split
  ·rfl
  ·rename_i A;unfold ew;rw [if_neg (by simpa using A)]
 rw [I,p];have M:=g.size;have N:=j.size;refine o_ (ai.aj (j.new i) f) rfl ⟨(ew (L.drop 8) lines).1,a2,(ew (L.drop 8) lines).2.length,cap⟩ (K:=λres s=>eY w (ew (L.drop 8) lines) (.bool (ek (L.drop 8) lines == 0)) (.tuple #[res.val,.bool (ek (L.drop 8) lines == 0)]) s) λP l _=>?_
 exact ⟨a2,cap,rfl,((g.new j).new i).trans l λk y e=>by omega,⟨(d.new i).rd.aA l (hk (d.new i).rd λk u e=>by have:=q k u;have:=f.lt;omega),d.len,d.eB,d.u64⟩,λk l=>by have:=q k l;omega⟩
theorem A7 {w:ak} {a:an} {n c:Nat} {L:a8} (lines:Int) (h:r2 w a n c L):bb 246 [.slice a n c,.int .i64 lines] w (eY w (fp L lines) (.bool (gx L lines))):=by
 refine bd Tryz.func246 ?_;rw [Wh];rintro b1 w1 A s;obtain ⟨g,d⟩:=bl A s;have g:av w1 b1 iZ.cells er:=g;clear s;refine aD (vL lines (h.new d)) ?_;rintro v z ⟨a2,cap,rfl,p,f,r⟩;refine b0.aT ⟨(c1 L lines).1,a2,(c1 L lines).2.length,cap⟩ ⟨_,rfl,?_⟩;refine ec (vs:=b0.cells ⟨(c1 L lines).1,a2,(c1 L lines).2.length,cap⟩) rfl (b0.single _) λaB N P t j=>?_
 have R:=d.size;have S:=p.size;have b:=p.new j;have no:gx L lines=false->∀ {u:ak},ai N u->eh u ⟨b1,0,none⟩ 0 iZ.cells/\∀ x,x=cu u ⟨b1,0,none⟩ 0 iZ.cells->b0.ex λres=>cf x ⟨b1,0,none⟩ 0 res.cells/\x=x/\eY w (fp L lines) (.bool (gx L lines)) (.tuple #[res.val,.bool false]) x:=by intro J u q;refine o_ (ai.aj (b.new q) g) rfl iZ (K:=λres z=>eY w (fp L lines) (.bool (gx L lines)) (.tuple #[res.val,.bool false]) z) λT l _=>eY.zero (if_neg (by rw [J];simp)) (by rw [J]) ((d.new (b.new q)).trans l λk E e=>by omega)
 refine ev (λQ=>no (by unfold gx;rw [Q];rfl) (ao.refl _ _)) (λy=>⟨_,t.cell (i:=0) rfl,?_⟩);have hw:=y;unfold fU at hw;simp only [ep,decide_eq_true_eq,beq_iff_eq] at hw;have O:c1 L lines=((L.drop 8).getD 0 0,hA (L.drop 8) ((L.drop 8).getD 1 0).toNat):=by unfold c1 ew;rw [if_pos y,if_pos hw.2]
 have G:1<=(c1 L lines).1/\(c1 L lines).1<1073741824:=by
  rw [O];have o:=hw.2;unfold ek at o;split at o
  ·omega
  split at o
  ·omega
  split at o
  ·omega
  split at o
  ·omega
  rename_i _ _ _ H;have H:fH ((L.drop 8).getD 0 0) (hA (L.drop 8) ((L.drop 8).getD 1 0).toNat) lines=0:=by omega
  obtain ⟨_,M,_⟩:=jy H;exact ⟨M.1,M.2.1⟩
 refine aD (zz N G) ?_;rintro v U ⟨rfl,rfl⟩;refine ⟨_,_,rfl,nj ((h.rd.new d).new b) (i:=0) (by omega) h.len rfl λdm gy B=>⟨_,B _ (ao.refl _ _),du (λF=>no ?_ (ao.refl _ _)) (λhe=>?_)⟩⟩
 ·unfold gx;rw [y,show (fX (c1 L lines).1 == L.getD 0 0)=false from beq_eq_false_iff_ne.2 F];rfl
 have I:gx L lines=true:=by unfold gx;rw [y,show (fX (c1 L lines).1 == L.getD 0 0)=true from beq_iff_eq.2 he];rfl
 have C:fp L lines=c1 L lines:=if_pos I;rw [I,C];refine b0.aT ⟨(c1 L lines).1,a2,(c1 L lines).2.length,cap⟩ ⟨bO t rfl,?_⟩;refine o_ (ai.aj b g) rfl ⟨(c1 L lines).1,a2,(c1 L lines).2.length,cap⟩ (K:=λres z=>eY w (c1 L lines) (.bool true) (.tuple #[res.val,.bool true]) z) λT l _=>?_
 exact ⟨a2,cap,rfl,(d.new b).trans l λk E e=>by omega,⟨(f.new j).rd.aA l (hk (f.new j).rd λk D e=>by have:=r k D;have:=g.lt;omega),f.len,f.eB,f.u64⟩,λk l=>by have:=r k l;omega⟩
def wF (a b:Int×List aK):Bool:=a.1 == b.1 && decide (a.2=b.2)
theorem O2 {w:ak} {p q:b0} {P Q:List aK} (h:fm w p.eH p.dT P) (o:fm w q.eH q.dT Q):bb 252 [p.val,q.val] w λv w'=>v=.bool (wF (p.Seq,P) (q.Seq,Q))/\ai w w':=by
 refine bd Tryz.func252 ?_;rw [Ie];rintro b1 w1 j e;obtain ⟨c,l⟩:=bl j e;have c:av w1 b1 p.cells er:=c;clear e;rintro aB r k f;obtain ⟨a,d⟩:=bl k f;have a:av r aB q.cells er:=a;clear f;have b:=ai.aj d c;have g:=l.new d;unfold wF;refine ⟨_,b.cell (i:=0) rfl,_,a.cell (i:=0) rfl,d' (λhe=>⟨_,_,_,b.cell (i:=1) rfl,_,_,_,a.cell (i:=1) rfl,?_⟩) (λhe=>⟨?_,g⟩)⟩
 ·refine aD (O1 (h.new g).rd h.len (o.new g).rd o.len (by have:=h.eB;have:=h.len;omega)) ?_;rintro v s ⟨rfl,n⟩;refine ⟨_,rfl,?_,g.new n⟩;simp [he]
 ·simp [he]
end
section
open IntKind
variable (w:ak) (R:cz) {a b c:Nat} {i k l:Int} {s:an}
theorem Tz (f:a0):bf prog f220 [ba a,f.val,ab i,ab k] R w=(aS w f.cells.toArray 116 λl j=>aS j #[ab 0,ab 0,ab 0,ab 0,ah 0,ah 0,a5,ah 0,ab 0] 158 λg e=>iC e (af l 0) λr=>eM 245 #[ba a,r.val,.agg #[ab 1,ab 0,ab i,ab k,ah 0,ah 0,a5,ah 0,ab 0]] e λc h=>a_ h (af g 0) 0 c.cells λd=>l4 d (af g 0) λb=>d=d/\R b.val d):=by kernel_rfl
theorem TA:bf prog f221 [ba a,ae s b c] R w=(mN w (af a 8) λt=>jD 116 #[.pointer t,ae s b c] w λe d f g j=>cond (!g) (R (.tuple #[a5,ad false]) j) (ct 242 #[ae e d f] j λh k=>cond (h != 0) (dn 222 #[ba a,ab h] k λi l=>R (.tuple #[a5,ad i]) l) (R (.tuple #[ae e d f,ad true]) k))):=by kernel_rfl
theorem TB:bf prog f222 [ba a,ab i] R w=(a_ w (af a 15) 0 [ab i,ab 0,ab 0,ab 0,ah 0] λb=>R (ad false) b):=by kernel_rfl
theorem T1 (f:a0):bf prog f223 [ba a,f.val,ab i,ah k,ah l] R w=(aS w f.cells.toArray 116 λm j=>aS j #[ab 0,ab 0,ab 0,ab 0,ah 0,ah 0,a5,ah 0,ab 0] 158 λg e=>iC e (af m 0) λr=>eM 245 #[ba a,r.val,.agg #[ab 3,ab 0,ab i,ab 0,ah k,ah l,a5,ah 0,ab 0]] e λc h=>a_ h (af g 0) 0 c.cells λd=>l4 d (af g 0) λb=>d=d/\R b.val d):=by kernel_rfl
theorem nl (h:a0) (i:aG):bf prog f245 [ba a,h.val,i.val] R w=(aS w h.cells.toArray 116 λo m=>aS m i.cells.toArray 158 λq l=>aS l #[ab 0,ab 0,ab 0,ab 0,ah 0,ah 0,a5,ah 0,ab 0] 158 λg k=>cw k λp f=>AR f (af a 3) λd=>hp f (af o 0) λr=>GV f (af q 0) λj=>eM 241 #[d.val,r.val,ad true,j.val] p λb n=>a_ n (af g 0) 0 b.cells λe=>l4 e (af g 0) λc=>e=e/\R c.val e):=by kernel_rfl
theorem TS (h:a0):bf prog f250 [ba a,h.val,ab i,ae s b c] R w=(aS w h.cells.toArray 116 λm l=>aS l #[ab 0,ab 0,ab 0,ab 0,ah 0,ah 0,a5,ah 0,ab 0] 158 λj g=>iC g (af m 0) λr=>eM 245 #[ba a,r.val,.agg #[ab 2,ab 0,ab i,ab 0,ah 0,ah 0,ae s b c,ah 0,ab 0]] g λf k=>a_ k (af j 0) 0 f.cells λe=>l4 e (af j 0) λd=>e=e/\R d.val e):=by kernel_rfl
end
end Go.Proofs.YtmkljjbioomepaaGreat
