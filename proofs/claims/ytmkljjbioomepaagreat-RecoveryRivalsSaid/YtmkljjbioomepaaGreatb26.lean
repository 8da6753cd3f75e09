import Derived.Test.YtmkljjbioomepaaGreatb01
import Derived.Laws.StructEq
import Derived.Test.YtmkljjbioomepaaGreatb25
import Derived.Test.YtmkljjbioomepaaGreatProg
import Derived.Test.YtmkljjbioomepaaGreatb03
import Derived.Test.YtmkljjbioomepaaGreatb23
import Derived.Test.YtmkljjbioomepaaGreatb18
set_option linter.all false
set_option maxHeartbeats 4000000
set_option maxRecDepth 100000
namespace Go.iP
open Go.bu
def vS (sz:TypeId->Nat) (f:TypeId->Option (List Bool)):List Field->Nat->Option (List Bool)
 | [],off=>some []
 |fd::b,off=>match f fd.type with
  |some a=>match fd.name != "_" && (Nat.beq fd.offset off && Nat.beq (sz fd.type) a.length) with
   |true=>match vS sz f b (off+a.length) with
    |some r=>some (a++r)
    |none=>none
   |false=>none
  |none=>none
def kQ (P:Program):Nat->TypeId->Option (List Bool)
 | 0,_=>none
 |d+1,t=>match P.underlying t with
  |some (.int _)=>some [false]
  |some .bool=>some [true]
  |some (.struct b)=>match P.stoodInHeld t with
   |true=>none
   |false=>vS (qh P) (kQ P d) b.toList 0
  |some (.array len e)=>match kQ P d e with
   |some a=>match Nat.beq (qh P e) a.length with
    |true=>some (List.replicate len a).flatten
    |false=>none
   |none=>none
  | _=>none
def Fe:Bool->a2->a2->Prop
 |false,.int k _,.int j _=>k=j
 |true,.bool _,.bool _=>True
 | _,_,_=>False
def jP:List Bool->ax->ax->Prop
 | [],[],[]=>True
 |k::a,x::xs,y::ys=>Fe k x y/\jP a xs ys
 | _,_,_=>False
def qI:a2->a2->Bool
 | .int _ a,.int _ b=>a == b
 | .bool a,.bool b=>a == b
 | _,_=>true
def g9:ax->ax->Bool
 |x::xs,y::ys=>qI x y && g9 xs ys
 | _,_=>true
theorem jP.len:∀ {a:List Bool} {xs ys:ax},jP a xs ys->xs.length=a.length/\ys.length=a.length
 | [],[],[],_=>⟨rfl,rfl⟩
 | _::_,_::_,_::_,⟨_,h⟩=>by simp [jP.len h]
theorem jP.split:∀ {b ls:List Bool} {xs ys:ax},jP (b++ls) xs ys->jP b (xs.take b.length) (ys.take b.length)/\jP ls (xs.drop b.length) (ys.drop b.length)/\
  g9 xs ys=(g9 (xs.take b.length) (ys.take b.length) && g9 (xs.drop b.length) (ys.drop b.length))
 | [],ls,xs,ys,h=>⟨trivial,h,rfl⟩
 |k::b,ls,x::xs,y::ys,⟨a,h⟩=>by obtain ⟨c,d,e⟩:=jP.split h;refine ⟨⟨a,c⟩,d,?_⟩;show (qI x y && g9 xs ys)=((qI x y && g9 (xs.take b.length) (ys.take b.length)) && g9 (xs.drop b.length) (ys.drop b.length));rw [e,Bool.and_assoc]
theorem Ds {k:Bool}:∀ {xs ys:ax},jP [k] xs ys->∃ x y,xs=[x]/\ys=[y]/\Fe k x y
 | [],[],h=>h.elim
 | [],_::_,h=>h.elim
 | _::_,[],h=>h.elim
 | [x],[y],h=>⟨x,y,rfl,rfl,h.1⟩
 | _::_::_,[_],h=>h.2.elim
 | [_],_::_::_,h=>h.2.elim
 | _::_::_,_::_::_,h=>h.2.elim
section
variable {P:Program}
def lA (P:Program) (t:TypeId) (xs:ax):a2:=if gJ P t=true then .agg xs.toArray else xs.headD undef
theorem C2 {t:TypeId} {i:TypeInfo} {b:TypeDesc} (g:P.info? t=some i) (ar:P.underlying t=some b) {cs:ax} {off n:Nat} (h:i.size=n) (k:off+n<=cs.length) (d:gJ P t=false->n=1) (w:ak) :
  (part t cs.toArray off).run P w=.ok (lA P t ((cs.drop off).take n)) w:=by
 unfold part lA;rw [Sem.run_bind,pw ar];simp only [Result.andThen_ok];split
 ·simp only [Sem.run_bind,bu.run_sizeOf g,Result.andThen_ok,Sem.run_pure,h];congr 2;apply Array.ext';simp [List.extract]
 ·rename_i e;have c:=d (by simpa using e);subst c;have a:off<cs.length:=by omega
  have j:(cs.drop off).take 1=[cs[off]]:=by rw [oU a];rfl
  have f:cs.toArray[off]?=some cs[off]:=by simp [a]
  rw [j];simp only [f];rfl
theorem BZ {d:Nat} {t:TypeId} {n:List Bool} (h:kQ P d t=some n):∃ i a,P.info? t=some i/\P.underlying t=some a:=by
 cases d with
 |zero=>cases h
 |succ d=>
  unfold kQ at h;cases hu:P.underlying t with
  |none=>rw [hu] at h;cases h
  |some a=>
   cases b:P.info? t with
   |some i=>exact ⟨i,a,rfl,rfl⟩
   |none=>simp [Program.underlying,b] at hu
theorem Hz {d:Nat} {t:TypeId} {n:List Bool} (h:kQ P d t=some n) (a:gJ P t=false):n.length=1:=by
 cases d with
 |zero=>cases h
 |succ d=>
  unfold kQ at h;unfold gJ at a;split at h
  ·cases h;rfl
  ·cases h;rfl
  ·rename_i hu;rw [hu] at a;cases a
  ·rename_i hu;rw [hu] at a;cases a
  ·cases h
def vT (P:Program) (D:Nat) (t:TypeId) (a:List Bool):Prop:=∀ xs ys:ax,jP a xs ys->∀ w,(Op.equalIn D t (lA P t xs) (lA P t ys)).run P w=.ok (g9 xs ys) w
theorem Dt {t:TypeId} {a:List Bool} {D off:Nat} {xs ys:ax} (ay:vT P D t a) {i:TypeInfo} {d:TypeDesc} (f:P.info? t=some i) (ar:P.underlying t=some d) (j:i.size=a.length) (e:gJ P t=false->a.length=1)
  (c:jP a ((xs.drop off).take a.length) ((ys.drop off).take a.length)) (w:ak) {α:Type} (K:Bool->Sem α) :
  ((do K (<- Op.equalIn D t (<- part t xs.toArray off) (<- part t ys.toArray off))):Sem α).run P w=(K (g9 ((xs.drop off).take a.length) ((ys.drop off).take a.length))).run P w:=by
 obtain ⟨dd,l2⟩:=c.len;rw [iM,l1] at dd l2;cases h:a.length with
 |zero=>
  have:i.size=0:=by omega
  cases g:gJ P t with
  |false=>have:=e g;omega
  |true=>
   have b:∀ cs:ax,(part t cs.toArray off).run P w=.ok (lA P t []) w:=by intro cs;unfold part lA;rw [Sem.run_bind,pw ar,g];simp only [Result.andThen_ok,if_true,Sem.run_bind,bu.run_sizeOf f,Sem.run_pure,this];congr 2;apply Array.ext';simp [List.extract]
   rw [h] at c;simp only [Sem.run_bind,b,Result.andThen_ok];rw [ay [] [] c];rfl
 |succ n=>rw [<-h];simp only [Sem.run_bind,C2 (cs:=xs) (off:=off) f ar j (by omega) e w,C2 (cs:=ys) (off:=off) f ar j (by omega) e w,Result.andThen_ok];rw [ay _ _ c];rfl
theorem B0 {d D:Nat} (ay:∀ t b,kQ P d t=some b->vT P D t b) {xs ys:ax}:∀ (c:List Field) (off:Nat) (b:List Bool),vS (qh P) (kQ P d) c off=some b->jP b (xs.drop off) (ys.drop off)->
  ∀ w,(Op.eqFields D xs.toArray ys.toArray c).run P w=.ok (g9 (xs.drop off) (ys.drop off)) w
 | [],off,b,h,f=>by cases h;intro w;have u:=f.len;rw [fI u.1];simp [Op.eqFields,g9]
 |fd::c,off,b,h,f=>by
  unfold vS at h;split at h
  rotate_left
  ·cases h
  rename_i a hm;split at h
  rotate_left
  ·cases h
  rename_i o;split at h
  rotate_left
  ·cases h
  rename_i l x;cases h;simp only [e1,bne_iff_ne,ne_eq] at o;obtain ⟨g,j,e⟩:=o;have j:fd.offset=off:=kO j;have e:qh P fd.type=a.length:=kO e;obtain ⟨q,ig,n⟩:=f.split;rw [ve,ve] at ig n;have y:=B0 ay c (off+a.length) l x ig;intro w;obtain ⟨i,s,p,ar⟩:=BZ hm;have k:i.size=a.length:=by unfold qh at e;rw [p] at e;exact e
  unfold Op.eqFields;rw [if_pos (by simpa using g),j];have:=Dt (K:=λr=>if (!r)=true then pure false else Op.eqFields D xs.toArray ys.toArray c) (ay _ _ hm) p ar k (Hz hm) q w;refine Eq.trans this ?_;rw [n];cases z:g9 ((xs.drop off).take a.length) ((ys.drop off).take a.length) with
  |false=>rfl
  |true=>simp only [Bool.not_true,rn,if_false,vl];exact y w
theorem CC {D:Nat} {e:TypeId} {b:List Bool} (ay:vT P D e b) {i:TypeInfo} {f:TypeDesc} (k:P.info? e=some i) (ar:P.underlying e=some f) (n:i.size=b.length) (h:gJ P e=false->b.length=1) {xs ys:ax} (w:ak) :
  ∀ (l:cP) (a:Nat),l=List.range' a l.length->jP (List.replicate l.length b).flatten (xs.drop (a * b.length)) (ys.drop (a * b.length))->
   (forIn l ((none,()):Option Bool×Unit) (λi _=>do
    let r <- Op.equalIn D e (<- part e xs.toArray (i * b.length)) (<- part e ys.toArray (i * b.length))
    if (!r)=true then pure (ForInStep.done (some false,())) else pure (ForInStep.yield (none,()))):Sem (Option Bool×Unit)).run P w=.ok ((if g9 (xs.drop (a * b.length)) (ys.drop (a * b.length))=true then none else some false),()) w
 | [],a,_,d=>by have p:=d.len;rw [fI p.1];simp [g9]
 |j::l,a,c,d=>by
  rw [g7,List.range'_succ] at c;simp only [List.cons.injEq] at c;obtain ⟨rfl,c⟩:=c;rw [g7,rj,gV] at d;obtain ⟨o,ig,g⟩:=d.split;rw [ve,ve,<-hT] at ig g;rw [List.forIn_cons,Sem.run_bind];have:=Dt (K:=λr=>if (!r)=true then (pure (ForInStep.done (some false,())):Sem (ForInStep (Option Bool×Unit))) else pure (ForInStep.yield (none,()))) ay k ar n h o w;rw [this,g];have q:=CC ay k ar n h w l (j+1) c ig;cases s:g9 ((xs.drop (j * b.length)).take b.length) ((ys.drop (j * b.length)).take b.length) with
  |false=>rfl
  |true=>simp only [Bool.not_true,rn,if_false,vl];exact q
theorem v7:∀ (d:Nat) (t:TypeId) (f:List Bool),kQ P d t=some f->∀ D,d<=D->vT P D t f
 | 0,_,_,h=>by cases h
 |d+1,t,f,h=>by
  intro D A xs ys n w;obtain ⟨D,rfl⟩:∃ s,D=s+1:=⟨D - 1,by omega⟩;have g:d<=D:=by omega
  unfold kQ at h;split at h
  ·rename_i k hu;cases h;have a:gJ P t=false:=by unfold gJ;rw [hu]
   obtain ⟨x,y,rfl,rfl,b⟩:=Ds n;unfold lA;rw [a];cases x<;>cases y<;>first | exact b.elim | skip
   have z:_=_:=b;subst z;refine (run_equalIn_int w D t _ k _ _ hu).trans ?_;simp [g9,qI]
  ·rename_i hu;cases h;have a:gJ P t=false:=by unfold gJ;rw [hu]
   obtain ⟨x,y,rfl,rfl,b⟩:=Ds n;unfold lA;rw [a];cases x<;>cases y<;>first | exact b.elim | skip
   refine (run_equalIn_bool' w D t _ _ hu).trans ?_;simp [g9,qI]
  ·rename_i q hu;split at h
   ·cases h
   rename_i p;have a:gJ P t=true:=by unfold gJ;rw [hu]
   have r:P.fieldsOf t=q:=by unfold Program.fieldsOf;rw [hu]
   have:=B0 (λt f h=>v7 d t f h D g) q.toList 0 f h n w;unfold lA;rw [if_pos a,if_pos a,run_equalIn_struct w D t _ _ (by rw [r];exact hu) p,r];exact this
  ·rename_i len e hu;split at h
   rotate_left
   ·cases h
   rename_i c hm;split at h
   rotate_left
   ·cases h
   rename_i j;cases h;have j:qh P e=c.length:=kO j;obtain ⟨i,u,o,ar⟩:=BZ hm;have l:i.size=c.length:=by unfold qh at j;rw [o] at j;exact j
   have a:gJ P t=true:=by unfold gJ;rw [hu]
   have:=CC (v7 d e c hm D g) o ar l (Hz hm) (xs:=xs) (ys:=ys) w (List.range' 0 len) 0 (by simp) (by simpa using n);unfold lA;rw [if_pos a,if_pos a];simp only [Op.equalIn,Sem.run_bind,run_underlying hu,Result.andThen_ok,bu.run_sizeOf o,l];simp only [vd,td] at this;rw [Std.Legacy.Range.forIn_eq_forIn_range'];simp only [Std.Legacy.Range.size,Nat.sub_zero,Nat.add_one_sub_one,Nat.div_one];rw [this];cases g9 xs ys<;>rfl
  ·cases h
end
end Go.iP
namespace Go.Proofs.YtmkljjbioomepaaGreat
open Go.Proofs.Tryz Go.bu
section
theorem JG {T:TypeId} {f:List Bool} (h:Go.iP.kQ prog 8 T=some f) (d:gJ prog T=true) (i:Program.eqGuardType prog (Program.depth prog) T=false) {xs ys:ax} (g:Go.iP.jP f xs ys) {K:Bool->Prop} (e:K (Go.iP.g9 xs ys)) :
  rU prog T (.agg xs.toArray) (.agg ys.toArray) K:=by
 generalize c:Go.iP.g9 xs ys=r at e;refine ⟨r,λw=>?_,e⟩
 have b:=Go.iP.v7 8 T _ h 10000 (by omega) xs ys g w;unfold Go.iP.lA at b;rw [if_pos d,if_pos d,c] at b;have a:(Op.equalIn 10000 T (.agg xs.toArray) (.agg ys.toArray)).run prog w=.ok r w:=b;cases r;all_goals exact ⟨λop x y=>run_eqGuard_agg w op T x y _ _ i,by rw [run_eql_struct,a];rfl,by rw [run_neq_struct,a];rfl⟩
theorem Ns:Go.iP.kQ prog 8 et=some [false,false,false,false,false,false,false,false,false]:=by kernel_rfl
theorem OJ:gJ prog et=true:=by kernel_rfl
theorem Ld:Program.eqGuardType prog (Program.depth prog) et=false:=by kernel_rfl
theorem zo (p q:aK):Go.iP.g9 p.cells q.cells=true↔p=q:=by obtain ⟨a,b,b0,c,d,e,f,g,h⟩:=p;obtain ⟨cA,i,ig,j,k,l,n,o,r⟩:=q;simp [aK.cells,Go.iP.g9,Go.iP.qI]
instance:DecidableEq aK:=λp q=>decidable_of_iff _ (zo p q)
theorem OK {w:ak} {a b:an} {n m c d:Nat} {l l2:List aK} (E:bh w a (h4 l).flatten) (I:n=l.length) (F:bh w b (h4 l2).flatten) (hm:m=l2.length) (A:n<=1000000):a9 256 [.slice a n c,.slice b m d] w λv w'=>v=.bool (decide (l=l2))/\ai w w':=by
 refine bc Tryz.func256 ?_;rw [Qk];refine dw (λe=>⟨?_,ao.refl _ _⟩) (λe=>?_)
 ·rw [decide_eq_false];intro r;subst r;omega
 have hlen:l.length=l2.length:=by omega
 refine c2 mix (λq env u=>∃ (i:Nat) (D:ax),q=l.length - i/\i<=l.length/\env=wB a n c b m d n i D/\ai w u/\l.take i=l2.take i) l.length
  ⟨0,_,by omega,by omega,rfl,ao.refl _ _,rfl⟩ ?_
 rintro q env u ⟨i,D,rfl,J,rfl,k,C⟩;rw [P3];refine a8 (λH=>?_) (λG=>?_)
 ·rintro w1 o;have B:ai u w1:=by rw [o];exact cE _
  clear o;have f:=k.new B;have p:l[i]?=some l[i]:=bD (by omega);have g:l2[i]?=some (l2[i]'(by omega)):=bD (by omega);generalize l[i]=x at p;generalize l2[i]=y at g;refine ⟨λy=>ai w1 y,ao.refl _ _,?_⟩;refine iW (cells:=aK.cells) aK.len (by decide) (E.new f) p rfl I λb1 K s=>aK.aR x ⟨λz au=>kX (i:=0) λj v h=>by simpa using s z au j v h,?_⟩
  refine iW (cells:=aK.cells) aK.len (by decide) (F.new f) g rfl hm λaA L t=>aK.aR y ⟨λz au=>kX (i:=0) λj v h=>by simpa using t z au j v h,?_⟩
  refine JG Ns OJ Ld (xs:=x.cells) (ys:=y.cells) ⟨rfl,rfl,rfl,rfl,rfl,rfl,rfl,rfl,rfl,trivial⟩ ?_;refine ev (λA=>⟨?_,f⟩) (λhe=>?_)
  ·rw [decide_eq_false];intro r;subst r;rw [p] at g;rw [(zo x y).2 (nX g)] at A;cases A
  ·rw [bC (x:=(i:Int)+1) (by omega) (by omega)];refine ⟨l.length - (i+1),by omega,i+1,_,rfl,by omega,rfl,f,?_⟩;rw [fc,fc,C,p,g,(zo x y).1 he]
 ·rw [i0];refine ⟨?_,k⟩;rw [hS (by omega),hS (by omega)] at C;rw [decide_eq_true C]
def fN (L:bd) (lines:Int):Bool:=decide (L.length=120) && (eg (L.drop 8) lines == 0)
def cW (L:bd) (lines:Int):Int×List aK:=if fN L lines=true then ew (L.drop 8) lines else (0,[])
def li (L:bd) (lines:Int):Bool:=fN L lines && (fQ (cW L lines).1 == L.getD 0 0)
def fj (L:bd) (lines:Int):Int×List aK:=if li L lines=true then cW L lines else (0,[])
structure rX (w:ak) (a:an) (n c:Nat) (L:bd):Prop where
 rd:bh w a (us L)
 len:n=L.length
 cap:n<=c
 u64:∀ x ∈ L,ca x
 eD:n<=1000
theorem rX.new {w w':ak} {a:an} {n c:Nat} {L:bd} (h:rX w a n c L) (b:ai w w'):rX w' a n c L:=⟨h.rd.new b,h.len,h.cap,h.u64,h.eD⟩
theorem eZ.zero {w w':ak} {R:Int×List aK} {last a:a2} (b:R=(0,[])) (d:a=last) (e:ai w w'):eZ w R last (.tuple #[iL.val,a]) w':=by subst b d;exact ⟨none,0,rfl,e,y2 _,λk c=>absurd c nA⟩
theorem vI {w:ak} {a:an} {n c:Nat} {L:bd} (lines:Int) (h:rX w a n c L):a9 228 [.slice a n c,.int .i64 lines] w (eZ w (cW L lines) (.bool (fN L lines))):=by
 refine bc Tryz.func228 ?_;rw [VQ];rintro b1 w1 t r;obtain ⟨f,g⟩:=bl t r;have f:av w1 b1 iL.cells eo:=f;clear r;have hlen:=h.len;have E:=h.cap;have F:=h.eD;refine dw (λe=>?_) (λe=>?_)
 ·have p:fN L lines=false:=by unfold fN;rw [decide_eq_false (by omega)];rfl
  refine o2 f rfl iL (K:=λres s=>eZ w (cW L lines) (.bool (fN L lines)) (.tuple #[res.val,.bool false]) s) λP l _=>eZ.zero ?_ ?_ (g.trans l λk y e=>by omega)
  ·unfold cW;rw [if_neg (by rw [p];simp)]
  ·rw [p]
 have z:n=120:=by omega
 obtain ⟨b,o,rfl⟩:∃ b o,a=some ⟨b,o,none⟩:=by
  rcases h.rd with e | ⟨b,o,e,_⟩
  ·have:=congrArg List.length e;rw [hE,p8] at this;omega
  ·exact ⟨b,o,e⟩
 refine kA (by omega) (by omega) (by omega) (by omega) (by omega) λR C=>?_
 rcases C with rfl | ⟨e,_⟩;case inr=>omega
 have G:((n:Nat):Int).toNat - (8:Int).toNat=n - 8:=by simp
 have H:((c:Nat):Int).toNat - (8:Int).toNat=c - 8:=by simp
 rw [G,H];have B:bh w1 (some ⟨b,o+(8:Int).toNat * 1,none⟩) (us (L.drop 8)):=by have:=(h.rd.new g).drop 8;rwa [show (us L).drop 8=us (L.drop 8) by simp [us]] at this
 refine aC (Nr lines B (by rw [l1];omega) (by omega) (λx O=>h.u64 x (oX O)) (by omega)) ?_;rintro v s ⟨pa,cap,rfl,j,d,q⟩;refine bY.aR ⟨(ew (L.drop 8) lines).1,pa,(ew (L.drop 8) lines).2.length,cap⟩ ⟨_,rfl,?_⟩;refine ea (vs:=bY.cells ⟨(ew (L.drop 8) lines).1,pa,(ew (L.drop 8) lines).2.length,cap⟩) rfl (bY.single _) λaA Q J D i=>?_
 refine bY.aR ⟨(ew (L.drop 8) lines).1,pa,(ew (L.drop 8) lines).2.length,cap⟩ ⟨bJ D rfl,?_⟩;have p:fN L lines=(eg (L.drop 8) lines == 0):=by unfold fN;rw [decide_eq_true (by omega)];rfl
 have I:cW L lines=ew (L.drop 8) lines:=by
  unfold cW;rw [p];split
  ·rfl
  ·rename_i A;unfold ew;rw [if_neg (by simpa using A)]
 rw [I,p];have M:=g.size;have N:=j.size;refine o2 (ai.aj (j.new i) f) rfl ⟨(ew (L.drop 8) lines).1,pa,(ew (L.drop 8) lines).2.length,cap⟩ (K:=λres s=>eZ w (ew (L.drop 8) lines) (.bool (eg (L.drop 8) lines == 0)) (.tuple #[res.val,.bool (eg (L.drop 8) lines == 0)]) s) λP l _=>?_
 exact ⟨pa,cap,rfl,((g.new j).new i).trans l λk y e=>by omega,⟨(d.new i).rd.az l (hn (d.new i).rd λk u e=>by have:=q k u;have:=f.lt;omega),d.len,d.eD,d.u64⟩,λk l=>by have:=q k l;omega⟩
theorem AH {w:ak} {a:an} {n c:Nat} {L:bd} (lines:Int) (h:rX w a n c L):a9 246 [.slice a n c,.int .i64 lines] w (eZ w (fj L lines) (.bool (li L lines))):=by
 refine bc Tryz.func246 ?_;rw [UQ];rintro b1 w1 A s;obtain ⟨g,d⟩:=bl A s;have g:av w1 b1 iL.cells eo:=g;clear s;refine aC (vI lines (h.new d)) ?_;rintro v z ⟨pa,cap,rfl,p,f,r⟩;refine bY.aR ⟨(cW L lines).1,pa,(cW L lines).2.length,cap⟩ ⟨_,rfl,?_⟩;refine ea (vs:=bY.cells ⟨(cW L lines).1,pa,(cW L lines).2.length,cap⟩) rfl (bY.single _) λaA N P t j=>?_
 have R:=d.size;have S:=p.size;have b:=p.new j;have no:li L lines=false->∀ {u:ak},ai N u->ec u ⟨b1,0,none⟩ 0 iL.cells/\∀ x,x=cr u ⟨b1,0,none⟩ 0 iL.cells->bY.ex λres=>b6 x ⟨b1,0,none⟩ 0 res.cells/\x=x/\eZ w (fj L lines) (.bool (li L lines)) (.tuple #[res.val,.bool false]) x:=by intro J u q;refine o2 (ai.aj (b.new q) g) rfl iL (K:=λres z=>eZ w (fj L lines) (.bool (li L lines)) (.tuple #[res.val,.bool false]) z) λT l _=>eZ.zero (if_neg (by rw [J];simp)) (by rw [J]) ((d.new (b.new q)).trans l λk E e=>by omega)
 refine ev (λQ=>no (by unfold li;rw [Q];rfl) (ao.refl _ _)) (λy=>⟨_,t.cell (i:=0) rfl,?_⟩);have hw:=y;unfold fN at hw;simp only [e1,decide_eq_true_eq,beq_iff_eq] at hw;have O:cW L lines=((L.drop 8).getD 0 0,hl (L.drop 8) ((L.drop 8).getD 1 0).toNat):=by unfold cW ew;rw [if_pos y,if_pos hw.2]
 have G:1<=(cW L lines).1/\(cW L lines).1<1073741824:=by
  rw [O];have o:=hw.2;unfold eg at o;split at o
  ·omega
  split at o
  ·omega
  split at o
  ·omega
  split at o
  ·omega
  rename_i _ _ _ H;have H:fy ((L.drop 8).getD 0 0) (hl (L.drop 8) ((L.drop 8).getD 1 0).toNat) lines=0:=by omega
  obtain ⟨_,M,_⟩:=jj H;exact ⟨M.1,M.2.1⟩
 refine aC (zf N G) ?_;rintro v U ⟨rfl,rfl⟩;refine ⟨_,_,rfl,m3 ((h.rd.new d).new b) (i:=0) (by omega) h.len rfl λdk gk B=>⟨_,B _ (ao.refl _ _),dw (λF=>no ?_ (ao.refl _ _)) (λhe=>?_)⟩⟩
 ·unfold li;rw [y,show (fQ (cW L lines).1 == L.getD 0 0)=false from beq_eq_false_iff_ne.2 F];rfl
 have I:li L lines=true:=by unfold li;rw [y,show (fQ (cW L lines).1 == L.getD 0 0)=true from beq_iff_eq.2 he];rfl
 have C:fj L lines=cW L lines:=if_pos I;rw [I,C];refine bY.aR ⟨(cW L lines).1,pa,(cW L lines).2.length,cap⟩ ⟨bJ t rfl,?_⟩;refine o2 (ai.aj b g) rfl ⟨(cW L lines).1,pa,(cW L lines).2.length,cap⟩ (K:=λres z=>eZ w (cW L lines) (.bool true) (.tuple #[res.val,.bool true]) z) λT l _=>?_
 exact ⟨pa,cap,rfl,(d.new b).trans l λk E e=>by omega,⟨(f.new j).rd.az l (hn (f.new j).rd λk D e=>by have:=r k D;have:=g.lt;omega),f.len,f.eD,f.u64⟩,λk l=>by have:=r k l;omega⟩
def v_ (a b:Int×List aK):Bool:=a.1 == b.1 && decide (a.2=b.2)
theorem OL {w:ak} {p q:bY} {P Q:List aK} (h:fh w p.eu p.dO P) (o:fh w q.eu q.dO Q):a9 252 [p.val,q.val] w λv w'=>v=.bool (v_ (p.Seq,P) (q.Seq,Q))/\ai w w':=by
 refine bc Tryz.func252 ?_;rw [HF];rintro b1 w1 j e;obtain ⟨c,l⟩:=bl j e;have c:av w1 b1 p.cells eo:=c;clear e;rintro aA r k f;obtain ⟨a,d⟩:=bl k f;have a:av r aA q.cells eo:=a;clear f;have b:=ai.aj d c;have g:=l.new d;unfold v_;refine ⟨_,b.cell (i:=0) rfl,_,a.cell (i:=0) rfl,dY (λhe=>⟨_,_,_,b.cell (i:=1) rfl,_,_,_,a.cell (i:=1) rfl,?_⟩) (λhe=>⟨?_,g⟩)⟩
 ·refine aC (OK (h.new g).rd h.len (o.new g).rd o.len (by have:=h.eD;have:=h.len;omega)) ?_;rintro v s ⟨rfl,n⟩;refine ⟨_,rfl,?_,g.new n⟩;simp [he]
 ·simp [he]
end
section
open IntKind
variable (w:ak) (R:cB) {a b c:Nat} {i k l:Int} {s:an}
theorem RY (f:aY):bf prog f220 [a_ a,f.val,ab i,ab k] R w=(aQ w f.cells.toArray 116 λj h=>aQ h #[ab 0,ab 0,ab 0,ab 0,ah 0,ah 0,a5,ah 0,ab 0] 158 λe g=>im g (af j 0) λr=>eL 245 #[a_ a,r.val,.agg #[ab 1,ab 0,ab i,ab k,ah 0,ah 0,a5,ah 0,ab 0]] g λc l=>a' l (af e 0) 0 c.cells λd=>lR d (af e 0) λb=>d=d/\R b.val d):=by kernel_rfl
theorem RZ:bf prog f221 [a_ a,ae s b c] R w=(mD w (af a 8) λt=>js 116 #[.pointer t,ae s b c] w λe d f g j=>cond (!g) (R (.tuple #[a5,ad false]) j) (cm 242 #[ae e d f] j λh k=>cond (h != 0) (de 222 #[a_ a,ab h] k λi l=>R (.tuple #[a5,ad i]) l) (R (.tuple #[ae e d f,ad true]) k))):=by kernel_rfl
theorem R0:bf prog f222 [a_ a,ab i] R w=(a' w (af a 15) 0 [ab i,ab 0,ab 0,ab 0,ah 0] λb=>R (ad false) b):=by kernel_rfl
theorem Ss (f:aY):bf prog f223 [a_ a,f.val,ab i,ah k,ah l] R w=(aQ w f.cells.toArray 116 λj h=>aQ h #[ab 0,ab 0,ab 0,ab 0,ah 0,ah 0,a5,ah 0,ab 0] 158 λe g=>im g (af j 0) λr=>eL 245 #[a_ a,r.val,.agg #[ab 3,ab 0,ab i,ab 0,ah k,ah l,a5,ah 0,ab 0]] g λc m=>a' m (af e 0) 0 c.cells λd=>lR d (af e 0) λb=>d=d/\R b.val d):=by kernel_rfl
theorem RL (h:aY) (i:aG):bf prog f245 [a_ a,h.val,i.val] R w=(aQ w h.cells.toArray 116 λo l=>aQ l i.cells.toArray 158 λj m=>aQ m #[ab 0,ab 0,ab 0,ab 0,ah 0,ah 0,a5,ah 0,ab 0] 158 λg p=>ct p λn f=>As f (af a 3) λd=>hc f (af o 0) λr=>Gr f (af j 0) λq=>eL 241 #[d.val,r.val,ad true,q.val] n λb k=>a' k (af g 0) 0 b.cells λe=>lR e (af g 0) λc=>e=e/\R c.val e):=by kernel_rfl
theorem ol (h:aY):bf prog f250 [a_ a,h.val,ab i,ae s b c] R w=(aQ w h.cells.toArray 116 λl k=>aQ k #[ab 0,ab 0,ab 0,ab 0,ah 0,ah 0,a5,ah 0,ab 0] 158 λg j=>im j (af l 0) λr=>eL 245 #[a_ a,r.val,.agg #[ab 2,ab 0,ab i,ab 0,ah 0,ah 0,ae s b c,ah 0,ab 0]] j λf m=>a' m (af g 0) 0 f.cells λe=>lR e (af g 0) λd=>e=e/\R d.val e):=by kernel_rfl
end
section
structure zE (j:b3):Prop where
 a1:0<=j.a1/\j.a1<6
 inc:1<=j.inc/\j.inc<=59
 num:0<=j.v.number/\j.v.number<16
 mem:0<j.v.mem.length/\j.v.mem.length<=5
 ef:∀ m ∈ j.v.mem,1<=m.cn/\m.cn<=31
 lines:98<=j.lines/\j.lines<=256
 dead:0<=j.dead/\j.dead<6
 dS:1<=j.dS/\j.dS<=60
 prev:ca j.prev
theorem Le {j:b3} (h:j.valid=0) (hu:ca j.prev):zE j:=by
 unfold b3.valid at h;split at h
 ·omega
 rename_i g;have g:f7 j.inc j.a1=0:=by omega
 split at h
 ·omega
 rename_i p;split at h
 ·omega
 rename_i a;have a:j.v.valid 5=0:=by omega
 obtain ⟨k,i⟩:=uY g;have c:=h;unfold b3.tail at c;split at c
 ·omega
 rename_i t1;split at c
 ·omega
 rename_i t2;split at c
 ·omega
 rename_i t3;unfold jf.valid at a;split at a
 ·omega
 split at a
 ·omega
 rename_i l;split at a
 ·omega
 rename_i n;split at a
 ·omega
 rename_i d;split at a
 ·omega
 rename_i f;have f:j.v.mem.all mI=true:=by simpa using f
 have d:(List.range j.v.mem.length).all (j' (5:Nat) j.v.mem)=true:=tf _▸d;have o:=DY d;refine ⟨i,k,by omega,by omega,λm hm=>?_,by omega,by omega,?_,hu⟩
 ·have:=gU.1 f m hm;unfold mI at this;exact of_decide_eq_true this
 ·by_cases e:j.dead=j.a1
  ·have:j.dS=j.inc:=by
    by_cases b:j.dS=j.inc
    ·exact b
    ·exact absurd ⟨e,b⟩ t2
   omega
  ·have:¬ (j.dS<2\/60<j.dS\/Int.tmod j.dS 2≠0):=λb=>t3 ⟨e,b⟩
   omega
abbrev oi:TypeId:=220
abbrev o':TypeId:=175
structure ga where
 fq:an
 j6:Nat
 lc:Nat
 clock:Int
def iG (o:Int×Int):dA:=⟨o.1,0,0,0,o.2⟩
def pK (r:dt) (tb:Nat) (m:aY) (tag:Int) (V:ga) (o:Int×Int):ax:=r.cells++(ptr tb::m.cells)++[.int .u64 tag,.slice V.fq V.j6 V.lc,.int .u64 V.clock]++(iG o).cells
structure dh (w0 u:ak) (aH tb:Nat) (r:dt) (m:aY) (j:b3) (V:ga) (o:Int×Int):Prop where
 aj:av u aH (pK r tb m (gv j.inc j.a1) V o) oi
 bM:ri w0 r j
 cf:zE j
 mem:j.v.mem[0]?=some m
 new:ai w0 u
 pJ:w0.heap.size<=aH
 kH:w0.heap.size<=tb
 ne:aH≠tb
theorem dh.bz {w0 u bs:ak} {aH tb:Nat} {r:dt} {m:aY} {j:b3} {V:ga} {o:Int×Int} (h:dh w0 u aH tb r m j V o) (a:ai u bs):dh w0 bs aH tb r m j V o:=
 ⟨ai.aj a h.aj,h.bM,h.cf,h.mem,h.new.new a,h.pJ,h.kH,h.ne⟩
theorem dh.az {w0 u bs:ak} {aH tb:Nat} {r:dt} {m:aY} {j:b3} {V:ga} {o:Int×Int} (h:dh w0 u aH tb r m j V o) {M:a3} (b:ao M u bs) (a:∀ k,M k->w0.heap.size<=k/\k≠aH):dh w0 bs aH tb r m j V o:=
 ⟨b.aj h.aj λe=>(a _ e).2 rfl,h.bM,h.cf,h.mem,h.new.trans b λk c e=>by have:=(a k e).1;omega,h.pJ,h.kH,h.ne⟩
theorem dh.num {w0 u:ak} {aH tb:Nat} {r:dt} {m:aY} {j:b3} {V:ga} {o:Int×Int} (h:dh w0 u aH tb r m j V o):r.View.Number=j.v.number:=by obtain ⟨M,al⟩:=h.bM.view;exact al.num
section
variable {w0 w:ak} {aH tb:Nat} {r:dt} {bN:aY} {j:b3} {V:ga} {o:Int×Int}
theorem IE (h:dh w0 w aH tb r bN j V o) {m:aY} (G:dN m.cn) {M:a3} {v:aG} {x:aW} (al:cF M w v x) :
  a9 245 [ptr aH,m.val,v.val] w λy w'=>∃ bj:aG,y=bj.val/\cF (λk=>k<w.heap.size) w' bj (addr j.v.number m x)/\ai w w':=by
 refine bc Tryz.func245 ?_;rw [ptr,RL];rintro b1 w1 D t;obtain ⟨g,n⟩:=bl D t;have g:av w1 b1 m.cells eI:=g;clear t;rintro aA T E u;obtain ⟨i,f⟩:=bl E u;have i:av T aA v.cells cz:=i;clear u;rintro L K F z;obtain ⟨d,c⟩:=bl F z;have d:av K L (aG.cells ⟨0,0,0,0,0,0,none,0,0,0,0⟩) cz:=d;clear z;rintro C A;have b:ai K C:=by rw [A];exact cE _
 clear A;have a:=((n.new f).new c).new b;have P:=n.size;have Q:=f.size;have R:=c.size;have S:=b.size;have N:=h.bz a;have q:=h.num;have W:=h.cf.num;refine ⟨λy=>ai C y,ao.refl _ _,c3.aR r.View ⟨λy B=>bJ (ai.aj B N.aj) rfl,aY.aR m ⟨λy B=>bJ (ai.aj (((f.new c).new b).new B) g) rfl,aG.aR v ⟨λy B=>bJ (ai.aj ((c.new b).new B) i) rfl,?_⟩⟩⟩⟩;refine aC (BA C (by omega) (by omega) G (al.az (ao.b4 a) λ_ _ e=>e)) ?_;rintro y X ⟨bj,rfl,s,p⟩;refine aG.aR bj ⟨rfl,dQ (ai.aj (b.new p) d) rfl (aG.single _) λU I l=>?_⟩;have J:=d.lt;refine aG.aR bj ⟨bJ I rfl,rfl,bj,rfl,?_,(a.new p).trans l λk O e=>by omega⟩;rw [q] at s;have H:cF (λk=>k<C.heap.size) U bj (addr j.v.number m x):=s.az (l.mono λk _ e=>by omega) λ_ _ e=>e
 exact H.az (ao.refl _ _) λk _ e=>by omega
theorem zF (h:dh w0 w aH tb r bN j V o) {m:aY} (z:dN m.cn) {M:a3} {v:aG} {x:aW} (al:cF M w v x) :
  ∀ b1 w1,b1=w.heap.size->w1=w.alloc (.cells m.cells.toArray eI)->∀ aA i,aA=w1.heap.size->i=w1.alloc (.cells #[.int .i64 0,.int .i64 0,.int .i64 0,.int .i64 0,.int .u64 0,.int .u64 0,.slice none 0 0,.int .u64 0,.int .i64 0] cz)->aY.ex λr=>b6 i ⟨b1,0,none⟩ 0 r.cells/\
   Calls prog 245 #[ptr aH,r.val,v.val] i λe D=>aG.ex λa=>e=.returned a.val/\ec D ⟨aA,0,none⟩ 0 a.cells/\∀ d,d=cr D ⟨aA,0,none⟩ 0 a.cells->aG.ex λres=>b6 d ⟨aA,0,none⟩ 0 res.cells/\d=d/\
    (∃ bj:aG,res.val=bj.val/\cF (λk=>k<w.heap.size) d bj (addr j.v.number m x)/\ai w d):=by
 rintro b1 w1 t q;obtain ⟨g,n⟩:=bl t q;have g:av w1 b1 m.cells eI:=g;clear q;rintro aA i u s;obtain ⟨c,f⟩:=bl u s;have c:av i aA (aG.cells ⟨0,0,0,0,0,0,none,0,0,0,0⟩) cz:=c;clear s;have b:=n.new f;have G:=n.size;have H:=f.size;refine aY.aR m ⟨bJ (ai.aj f g) rfl,?_⟩;refine aC (IE (h.bz b) z (al.az (ao.b4 b) λ_ _ e=>e)) ?_;rintro y D ⟨bj,rfl,A,p⟩;refine aG.aR bj ⟨rfl,dQ (ai.aj p c) rfl (aG.single _) λd C l=>?_⟩;have E:=c.lt;refine aG.aR bj ⟨bJ C rfl,rfl,bj,rfl,?_,(b.new p).trans l λk F e=>by omega⟩;have B:cF (λk=>k<i.heap.size) d bj (addr j.v.number m x):=A.az (l.mono λk _ e=>by omega) λ_ _ e=>e
 exact B.az (ao.refl _ _) λk _ e=>by omega
abbrev zG (w:ak) (x:aW) (y:a2) (w':ak):Prop:=∃ bj:aG,y=bj.val/\cF (λk=>k<w.heap.size) w' bj x/\ai w w'
def lN (j:b3) (m:aY) (at_:Int) (ws:bd):aW:=addr j.v.number m ⟨2,0,at_,0,0,0,ws,0,0⟩
def mL (j:b3) (m:aY) (at_ n:Int):aW:=addr j.v.number m ⟨1,0,at_,n,0,0,[],0,0⟩
def rY (j:b3) (m:aY) (at_ old new:Int):aW:=addr j.v.number m ⟨3,0,at_,0,old,new,[],0,0⟩
theorem x5 (h:dh w0 w aH tb r bN j V o) {m:aY} (b:dN m.cn) (at_:Int) {a:an} {n c:Nat} {ws:bd} (i:bh w a (us ws)) (g:n=ws.length) (e:n<=c) (d:a=none->ws=[]) (hu:∀ x ∈ ws,ca x) (f:ws.length<=1000000) :
  a9 250 [ptr aH,m.val,.int .i64 at_,.slice a n c] w (zG w (lN j m at_ ws)):=by
 refine bc Tryz.func250 ?_;rw [ptr,ol];exact zF h b (v:=⟨2,0,at_,0,0,0,a,n,c,0,0⟩) (x:=⟨2,0,at_,0,0,0,ws,0,0⟩) (pT (k:=2) (at_:=at_) (nn:=0) (old:=0) (new:=0) i g e d hu f hf hf)
theorem u1 (h:dh w0 w aH tb r bN j V o) {m:aY} (b:dN m.cn) (at_ n:Int):a9 220 [ptr aH,m.val,.int .i64 at_,.int .i64 n] w (zG w (mL j m at_ n)):=by refine bc Tryz.func220 ?_;rw [ptr,RY];exact zF h b (v:=⟨1,0,at_,n,0,0,none,0,0,0,0⟩) (x:=⟨1,0,at_,n,0,0,[],0,0⟩) (pT (k:=1) (at_:=at_) (nn:=n) (old:=0) (new:=0) (a:=none) (n:=0) (c:=0) (ws:=[]) (.inl rfl) rfl (by omega) (λ_=>rfl) (λx d=>by cases d) (by simp) hf hf)
theorem vw (h:dh w0 w aH tb r bN j V o) {m:aY} (b:dN m.cn) (at_:Int) {old new:Int} (e:ca old) (d:ca new):a9 223 [ptr aH,m.val,.int .i64 at_,.int .u64 old,.int .u64 new] w (zG w (rY j m at_ old new)):=by refine bc Tryz.func223 ?_;rw [ptr,Ss];exact zF h b (v:=⟨3,0,at_,0,old,new,none,0,0,0,0⟩) (x:=⟨3,0,at_,0,old,new,[],0,0⟩) (pT (k:=3) (at_:=at_) (nn:=0) (old:=old) (new:=new) (a:=none) (n:=0) (c:=0) (ws:=[]) (.inl rfl) rfl (by omega) (λ_=>rfl) (λx f=>by cases f) (by simp) e d)
theorem D3 (h:dh w0 w aH tb r bN j V o) (c:Int×Int) {K:aE} (d:∀ w',ao (λk=>k=aH) w w'->dh w0 w' aH tb r bN j V c->K w') :
  ec w ⟨aH,15,none⟩ 0 (iG c).cells/\∀ w1,w1=cr w ⟨aH,15,none⟩ 0 (iG c).cells->K w1:=by
 refine ⟨gg h.aj (cQ 20) (dA.single _),λw1 b=>?_⟩;have a:ao (λk=>k=aH) w w1:=by rw [b];exact h0 _ _ _ _ _
 refine d w1 a ⟨?_,h.bM,h.cf,h.mem,h.new.trans a λk f e=>by have:=h.pJ;omega,h.pJ,h.kH,h.ne⟩;rw [b];exact h.aj.cr (vs:=(iG c).cells) (o:=15) (i:=0)
theorem yh (h:dh w0 w aH tb r bN j V o) (e:Int):a9 222 [ptr aH,.int .i64 e] w λv w'=>v=.bool false/\ao (λk=>k=aH) w w'/\dh w0 w' aH tb r bN j V (e,0):=by refine bc Tryz.func222 ?_;rw [ptr,R0];exact D3 h (e,0) λw' b a=>⟨rfl,b,a⟩
end
structure eH (A:a3) (w0 u:ak) (aH tb B:Nat) (r:dt) (m:aY) (j:b3) (V:ga) (R:cq) (bs:ak):Prop where
 az:ao (λk=>k=tb\/k=aH) u bs
 eF:dh w0 bs aH tb r m j V R.out
 fS:∃ ib:fV,eP A w0 bs tb ib R.a4/\ib.dE=R.dE/\(match R.ask with
  |none=>ib.c8=0
  |some vs=>0<vs.length/\∃ w1,ai w0 w1/\B<=w1.heap.size/\bH w1 bs ib.aa ib.c8 ib.ac vs)
theorem nx {A:a3} {w0 u:ak} {aH tb:Nat} {r:dt} {m:aY} {j:b3} {V:ga} (w:dh w0 u aH tb r m j V (0,0)) {T:fV} {G:List (List aO)} (z:eP A w0 u tb T G) (C:fY T) {w1:ak} (Y:ai w0 w1) (Wa:tb<w1.heap.size) (V':aH<w1.heap.size) {a:an} {n cap:Nat} {vs:List aW} (al:bH w1 u a n cap vs) (V5:vs.length<=100000) :
  a9 221 [ptr aH,.slice a n cap] u λv bs=>∃ (dB:an) (dc:Nat) (raw:List bO),v=.tuple #[.slice dB raw.length dc,.bool (cg G vs 0).ok]/\
   eH A w0 u aH tb w1.heap.size r m j V (cg G vs 0) bs/\bh w0 dB (fP raw).flatten/\gW A w0 raw (cg G vs 0).done/\((cg G vs 0).ok=true->raw.length=vs.length):=by
 refine bc Tryz.func221 ?_;rw [ptr,RZ];obtain ⟨cl,p,J⟩:=al.ex;have Wd:=J.1;have U:=al.len;have Wb:=z.aj.lt;have S:=w.ne;refine ⟨_,w.aj.cell (i:=8) rfl,?_⟩;have E:n=cl.length:=by omega
 rw [E] at p;have V3:=DM (A:=A) w.new w.kH z.aj z.a4 z.dM z.gc (aa:=a) (ac:=cap) p.rd J (by omega);rw [<-E] at V3;refine aC V3 ?_;rintro v Z ⟨V2,dB,dc,raw,rfl,N,s,I,g,D,Q,P,K,f⟩;rw [C.dE,Bool.false_or] at K;have q:dh w0 Z aH tb r m j V (0,0):=w.az s λk e=>⟨by have:=w.kH;omega,by omega⟩
 have Wc:bH w1 Z a n cap vs:=al.az s λk e=>by omega
 refine ⟨_,_,_,_,rfl,?_⟩;have fin:∀ {y:ak},ao (λk=>k=aH) Z y->∀ {R:cq},R.a4=(batch G vs).a4->R.dE=(batch G vs).dE->R.ask=(batch G vs).ask->dh w0 y aH tb r m j V R.out->eH A w0 u aH tb w1.heap.size r m j V R y:=by
  intro y l R V6 V7 V8 W;have o:ao (λk=>k=tb\/k=aH) u y:=(s.mono λ_ _ e=>Or.inl e).trans l λk _ e=>.inr e
  refine ⟨o,W,V2,?_,by rw [K,V7],?_⟩
  ·rw [V6];exact ⟨l.aj N (λe=>S e.symm),D,Q,P⟩
  ·rw [V8];cases L:(batch G vs).ask with
   |none=>rw [L] at f;obtain ⟨_,M,_⟩:=f;show V2.c8=0;rw [M];exact C.c8
   |some ws=>rw [L] at f;obtain ⟨V9,M,V_⟩:=f;have:=Ce L;subst this;refine ⟨Dw L,w1,Y,cQ _,?_⟩;rw [V9,M,V_,<-U];exact al.az o λk e=>by rcases e with e | e<;>omega
 unfold cg;refine ev (λc=>?_) (λc=>?_)
 ·rw [if_pos c];exact ⟨none,0,[],rfl,fin (ao.refl _ _) rfl rfl rfl q,.inl rfl,⟨rfl,λi v x al=>by simp at al⟩,λh=>by cases h⟩
 ·rw [if_neg (by rw [c];simp)];obtain ⟨F,H⟩:=CU c;refine aC (CX q.new rfl I g (by have:=g.1;have:=@qT G vs;omega)) ?_;rintro v bk ⟨rfl,t⟩;have B:=q.bz t;refine ⟨_,rfl,dw (λe=>?_) (λe=>?_)⟩
  ·rw [if_pos e];refine aC (yh B (ho (batch G vs).done)) ?_;rintro v y ⟨rfl,l,O⟩;exact ⟨_,rfl,none,0,[],rfl,fin ((ao.b4 t).trans l λ_ _ e=>e) rfl H.symm F.symm O,.inl rfl,⟨rfl,λi v x al=>by simp at al⟩,λh=>by cases h⟩
  ·rw [if_neg (by simpa using e)];refine ⟨dB,dc,raw,rfl,fin (ao.b4 t) rfl H.symm F.symm B,I,g,λ_=>?_⟩
   by_cases X:vs.length=0
   ·have:=g.1;have:=@qT G vs;omega
   ·have b:=g.1;unfold batch at c b;rw [if_neg X] at c b;cases G with
    |nil=>cases c
    |cons d We=>
     simp only at c b;split at c
     ·rename_i V4;rw [if_pos V4] at b;have:=yf V4;simp only at b;omega
     ·cases c
end
end Go.Proofs.YtmkljjbioomepaaGreat
