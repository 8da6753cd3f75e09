import Derived.Test.YtmkljjbioomepaaGreatc01
import Derived.Laws.StructEq
import Derived.Test.YtmkljjbioomepaaGreatc26
import Derived.Test.YtmkljjbioomepaaGreatProg
import Derived.Test.YtmkljjbioomepaaGreatc03
import Derived.Test.YtmkljjbioomepaaGreatc24
import Derived.Test.YtmkljjbioomepaaGreatc19
set_option linter.all false
set_option maxHeartbeats 4000000
set_option maxRecDepth 100000
namespace Go.iK
open Go.br
def vu (sz:TypeId->Nat) (f:TypeId->Option (List Bool)):List Field->Nat->Option (List Bool)
 | [],off=>some []
 |fd::b,off=>match f fd.type with
  |some a=>match fd.name != "_" && (Nat.beq fd.offset off && Nat.beq (sz fd.type) a.length) with
   |true=>match vu sz f b (off+a.length) with
    |some r=>some (a++r)
    |none=>none
   |false=>none
  |none=>none
def lj (P:Program):Nat->TypeId->Option (List Bool)
 | 0,_=>none
 |d+1,t=>match P.underlying t with
  |some (.int _)=>some [false]
  |some .bool=>some [true]
  |some (.struct b)=>match P.stoodInHeld t with
   |true=>none
   |false=>vu (qb P) (lj P d) b.toList 0
  |some (.array len e)=>match lj P d e with
   |some a=>match Nat.beq (qb P e) a.length with
    |true=>some (List.replicate len a).flatten
    |false=>none
   |none=>none
  | _=>none
def EP:Bool->a4->a4->Prop
 |false,.int k _,.int j _=>k=j
 |true,.bool _,.bool _=>True
 | _,_,_=>False
def jI:List Bool->ax->ax->Prop
 | [],[],[]=>True
 |k::a,x::xs,y::ys=>EP k x y/\jI a xs ys
 | _,_,_=>False
def qB:a4->a4->Bool
 | .int _ a,.int _ b=>a == b
 | .bool a,.bool b=>a == b
 | _,_=>true
def g6:ax->ax->Bool
 |x::xs,y::ys=>qB x y && g6 xs ys
 | _,_=>true
theorem jI.len:∀ {a:List Bool} {xs ys:ax},jI a xs ys->xs.length=a.length/\ys.length=a.length
 | [],[],[],_=>⟨rfl,rfl⟩
 | _::_,_::_,_::_,⟨_,h⟩=>by simp [jI.len h]
theorem jI.split:∀ {b ls:List Bool} {xs ys:ax},jI (b++ls) xs ys->jI b (xs.take b.length) (ys.take b.length)/\jI ls (xs.drop b.length) (ys.drop b.length)/\
  g6 xs ys=(g6 (xs.take b.length) (ys.take b.length) && g6 (xs.drop b.length) (ys.drop b.length))
 | [],ls,xs,ys,h=>⟨trivial,h,rfl⟩
 |k::b,ls,x::xs,y::ys,⟨a,h⟩=>by obtain ⟨c,d,e⟩:=jI.split h;refine ⟨⟨a,c⟩,d,?_⟩;show (qB x y && g6 xs ys)=((qB x y && g6 (xs.take b.length) (ys.take b.length)) && g6 (xs.drop b.length) (ys.drop b.length));rw [e,Bool.and_assoc]
theorem Df {k:Bool}:∀ {xs ys:ax},jI [k] xs ys->∃ x y,xs=[x]/\ys=[y]/\EP k x y
 | [],[],h=>h.elim
 | [],_::_,h=>h.elim
 | _::_,[],h=>h.elim
 | [x],[y],h=>⟨x,y,rfl,rfl,h.1⟩
 | _::_::_,[_],h=>h.2.elim
 | [_],_::_::_,h=>h.2.elim
 | _::_::_,_::_::_,h=>h.2.elim
section
variable {P:Program}
def lX (P:Program) (t:TypeId) (xs:ax):a4:=if gI P t=true then .agg xs.toArray else xs.headD undef
theorem Cq {t:TypeId} {i:TypeInfo} {b:TypeDesc} (g:P.info? t=some i) (ar:P.underlying t=some b) {cs:ax} {off n:Nat} (h:i.size=n) (k:off+n<=cs.length) (d:gI P t=false->n=1) (w:ak) :
  (part t cs.toArray off).run P w=.ok (lX P t ((cs.drop off).take n)) w:=by
 unfold part lX;rw [Sem.run_bind,pt ar];simp only [Result.andThen_ok];split
 ·simp only [Sem.run_bind,br.run_sizeOf g,Result.andThen_ok,Sem.run_pure,h];congr 2;apply Array.ext';simp [List.extract]
 ·rename_i e;have c:=d (by simpa using e);subst c;have a:off<cs.length:=by omega
  have j:(cs.drop off).take 1=[cs[off]]:=by rw [oM a];rfl
  have f:cs.toArray[off]?=some cs[off]:=by simp [a]
  rw [j];simp only [f];rfl
theorem Bu {d:Nat} {t:TypeId} {n:List Bool} (h:lj P d t=some n):∃ i a,P.info? t=some i/\P.underlying t=some a:=by
 cases d with
 |zero=>cases h
 |succ d=>
  unfold lj at h;cases hu:P.underlying t with
  |none=>rw [hu] at h;cases h
  |some a=>
   cases b:P.info? t with
   |some i=>exact ⟨i,a,rfl,rfl⟩
   |none=>simp [Program.underlying,b] at hu
theorem Ha {d:Nat} {t:TypeId} {n:List Bool} (h:lj P d t=some n) (a:gI P t=false):n.length=1:=by
 cases d with
 |zero=>cases h
 |succ d=>
  unfold lj at h;unfold gI at a;split at h
  ·cases h;rfl
  ·cases h;rfl
  ·rename_i hu;rw [hu] at a;cases a
  ·rename_i hu;rw [hu] at a;cases a
  ·cases h
def vB (P:Program) (D:Nat) (t:TypeId) (a:List Bool):Prop:=∀ xs ys:ax,jI a xs ys->∀ w,(Op.equalIn D t (lX P t xs) (lX P t ys)).run P w=.ok (g6 xs ys) w
theorem Dg {t:TypeId} {a:List Bool} {D off:Nat} {xs ys:ax} (ay:vB P D t a) {i:TypeInfo} {d:TypeDesc} (f:P.info? t=some i) (ar:P.underlying t=some d) (j:i.size=a.length) (e:gI P t=false->a.length=1)
  (c:jI a ((xs.drop off).take a.length) ((ys.drop off).take a.length)) (w:ak) {α:Type} (K:Bool->Sem α) :
  ((do K (<- Op.equalIn D t (<- part t xs.toArray off) (<- part t ys.toArray off))):Sem α).run P w=(K (g6 ((xs.drop off).take a.length) ((ys.drop off).take a.length))).run P w:=by
 obtain ⟨dd,l2⟩:=c.len;rw [iG,lZ] at dd l2;cases h:a.length with
 |zero=>
  have:i.size=0:=by omega
  cases g:gI P t with
  |false=>have:=e g;omega
  |true=>
   have b:∀ cs:ax,(part t cs.toArray off).run P w=.ok (lX P t []) w:=by intro cs;unfold part lX;rw [Sem.run_bind,pt ar,g];simp only [Result.andThen_ok,if_true,Sem.run_bind,br.run_sizeOf f,Sem.run_pure,this];congr 2;apply Array.ext';simp [List.extract]
   rw [h] at c;simp only [Sem.run_bind,b,Result.andThen_ok];rw [ay [] [] c];rfl
 |succ n=>rw [<-h];simp only [Sem.run_bind,Cq (cs:=xs) (off:=off) f ar j (by omega) e w,Cq (cs:=ys) (off:=off) f ar j (by omega) e w,Result.andThen_ok];rw [ay _ _ c];rfl
theorem Bv {d D:Nat} (ay:∀ t b,lj P d t=some b->vB P D t b) {xs ys:ax}:∀ (c:List Field) (off:Nat) (b:List Bool),vu (qb P) (lj P d) c off=some b->jI b (xs.drop off) (ys.drop off)->
  ∀ w,(Op.eqFields D xs.toArray ys.toArray c).run P w=.ok (g6 (xs.drop off) (ys.drop off)) w
 | [],off,b,h,f=>by cases h;intro w;have x:=f.len;rw [fB x.1];simp [Op.eqFields,g6]
 |fd::c,off,b,h,f=>by
  unfold vu at h;split at h
  rotate_left
  ·cases h
  rename_i a hm;split at h
  rotate_left
  ·cases h
  rename_i p;split at h
  rotate_left
  ·cases h
  rename_i l y;cases h;simp only [eY,bne_iff_ne,ne_eq] at p;obtain ⟨g,j,e⟩:=p;have j:fd.offset=off:=kJ j;have e:qb P fd.type=a.length:=kJ e;obtain ⟨s,n,o⟩:=f.split;rw [uW,uW] at n o;have z:=Bv ay c (off+a.length) l y n;intro w;obtain ⟨i,u,q,ar⟩:=Bu hm;have k:i.size=a.length:=by unfold qb at e;rw [q] at e;exact e
  unfold Op.eqFields;rw [if_pos (by simpa using g),j];have:=Dg (K:=λr=>if (!r)=true then pure false else Op.eqFields D xs.toArray ys.toArray c) (ay _ _ hm) q ar k (Ha hm) s w;refine Eq.trans this ?_;rw [o];cases A:g6 ((xs.drop off).take a.length) ((ys.drop off).take a.length) with
  |false=>rfl
  |true=>simp only [Bool.not_true,re,if_false,u3];exact z w
theorem Cr {D:Nat} {e:TypeId} {b:List Bool} (ay:vB P D e b) {i:TypeInfo} {f:TypeDesc} (n:P.info? e=some i) (ar:P.underlying e=some f) (o:i.size=b.length) (k:gI P e=false->b.length=1) {xs ys:ax} (w:ak) :
  ∀ (l:cQ) (a:Nat),l=List.range' a l.length->jI (List.replicate l.length b).flatten (xs.drop (a * b.length)) (ys.drop (a * b.length))->
   (forIn l ((none,()):Option Bool×Unit) (λi _=>do
    let r <- Op.equalIn D e (<- part e xs.toArray (i * b.length)) (<- part e ys.toArray (i * b.length))
    if (!r)=true then pure (ForInStep.done (some false,())) else pure (ForInStep.yield (none,()))):Sem (Option Bool×Unit)).run P w=.ok ((if g6 (xs.drop (a * b.length)) (ys.drop (a * b.length))=true then none else some false),()) w
 | [],a,_,d=>by have q:=d.len;rw [fB q.1];simp [g6]
 |j::l,a,c,d=>by
  rw [hh,List.range'_succ] at c;simp only [List.cons.injEq] at c;obtain ⟨rfl,c⟩:=c;rw [hh,q',gR] at d;obtain ⟨p,g,h⟩:=d.split;rw [uW,uW,<-h5] at g h;rw [List.forIn_cons,Sem.run_bind];have:=Dg (K:=λr=>if (!r)=true then (pure (ForInStep.done (some false,())):Sem (ForInStep (Option Bool×Unit))) else pure (ForInStep.yield (none,()))) ay n ar o k p w;rw [this,h];have s:=Cr ay n ar o k w l (j+1) c g;cases t:g6 ((xs.drop (j * b.length)).take b.length) ((ys.drop (j * b.length)).take b.length) with
  |false=>rfl
  |true=>simp only [Bool.not_true,re,if_false,u3];exact s
theorem vF:∀ (d:Nat) (t:TypeId) (f:List Bool),lj P d t=some f->∀ D,d<=D->vB P D t f
 | 0,_,_,h=>by cases h
 |d+1,t,f,h=>by
  intro D A xs ys n w;obtain ⟨D,rfl⟩:∃ s,D=s+1:=⟨D - 1,by omega⟩;have g:d<=D:=by omega
  unfold lj at h;split at h
  ·rename_i k hu;cases h;have a:gI P t=false:=by unfold gI;rw [hu]
   obtain ⟨x,y,rfl,rfl,b⟩:=Df n;unfold lX;rw [a];cases x<;>cases y<;>first | exact b.elim | skip
   have z:_=_:=b;subst z;refine (run_equalIn_int w D t _ k _ _ hu).trans ?_;simp [g6,qB]
  ·rename_i hu;cases h;have a:gI P t=false:=by unfold gI;rw [hu]
   obtain ⟨x,y,rfl,rfl,b⟩:=Df n;unfold lX;rw [a];cases x<;>cases y<;>first | exact b.elim | skip
   refine (run_equalIn_bool' w D t _ _ hu).trans ?_;simp [g6,qB]
  ·rename_i q hu;split at h
   ·cases h
   rename_i p;have a:gI P t=true:=by unfold gI;rw [hu]
   have r:P.fieldsOf t=q:=by unfold Program.fieldsOf;rw [hu]
   have:=Bv (λt f h=>vF d t f h D g) q.toList 0 f h n w;unfold lX;rw [if_pos a,if_pos a,run_equalIn_struct w D t _ _ (by rw [r];exact hu) p,r];exact this
  ·rename_i len e hu;split at h
   rotate_left
   ·cases h
   rename_i c hm;split at h
   rotate_left
   ·cases h
   rename_i j;cases h;have j:qb P e=c.length:=kJ j;obtain ⟨i,u,o,ar⟩:=Bu hm;have l:i.size=c.length:=by unfold qb at j;rw [o] at j;exact j
   have a:gI P t=true:=by unfold gI;rw [hu]
   have:=Cr (vF d e c hm D g) o ar l (Ha hm) (xs:=xs) (ys:=ys) w (List.range' 0 len) 0 (by simp) (by simpa using n);unfold lX;rw [if_pos a,if_pos a];simp only [Op.equalIn,Sem.run_bind,run_underlying hu,Result.andThen_ok,br.run_sizeOf o,l];simp only [uV,sW] at this;rw [Std.Legacy.Range.forIn_eq_forIn_range'];simp only [Std.Legacy.Range.size,Nat.sub_zero,Nat.add_one_sub_one,Nat.div_one];rw [this];cases g6 xs ys<;>rfl
  ·cases h
end
end Go.iK
namespace Go.Proofs.YtmkljjbioomepaaGreat
open Go.Proofs.Tryz Go.br
section
theorem IH {T:TypeId} {f:List Bool} (h:Go.iK.lj prog 8 T=some f) (d:gI prog T=true) (i:Program.eqGuardType prog (Program.depth prog) T=false) {xs ys:ax} (g:Go.iK.jI f xs ys) {K:Bool->Prop} (e:K (Go.iK.g6 xs ys)) :
  rI prog T (.agg xs.toArray) (.agg ys.toArray) K:=by
 generalize c:Go.iK.g6 xs ys=r at e;refine ⟨r,λw=>?_,e⟩
 have b:=Go.iK.vF 8 T _ h 10000 (by omega) xs ys g w;unfold Go.iK.lX at b;rw [if_pos d,if_pos d,c] at b;have a:(Op.equalIn 10000 T (.agg xs.toArray) (.agg ys.toArray)).run prog w=.ok r w:=b;cases r;all_goals exact ⟨λop x y=>run_eqGuard_agg w op T x y _ _ i,by rw [run_eql_struct,a];rfl,by rw [run_neq_struct,a];rfl⟩
theorem LW:Go.iK.lj prog 8 ep=some [false,false,false,false,false,false,false,false,false]:=by kernel_rfl
theorem Nz:gI prog ep=true:=by kernel_rfl
theorem KL:Program.eqGuardType prog (Program.depth prog) ep=false:=by kernel_rfl
theorem yZ (p q:aJ):Go.iK.g6 p.cells q.cells=true↔p=q:=by obtain ⟨a,b,c,d,e,f,g,h,i⟩:=p;obtain ⟨cz,j,k,l,n,o,r,s,t⟩:=q;simp [aJ.cells,Go.iK.g6,Go.iK.qB]
instance:DecidableEq aJ:=λp q=>decidable_of_iff _ (yZ p q)
theorem NA {w:ak} {a b:al} {n m c d:Nat} {l l2:List aJ} (E:bh w a (hV l).flatten) (I:n=l.length) (F:bh w b (hV l2).flatten) (hm:m=l2.length) (A:n<=1000000):a_ 256 [.slice a n c,.slice b m d] w λv w'=>v=.bool (decide (l=l2))/\ai w w':=by
 refine bc Tryz.func256 ?_;rw [PT];refine dw (λe=>⟨?_,ao.refl _ _⟩) (λe=>?_)
 ·rw [decide_eq_false];intro r;subst r;omega
 have hlen:l.length=l2.length:=by omega
 refine c2 mix (λq env u=>∃ (i:Nat) (D:ax),q=l.length - i/\i<=l.length/\env=v_ a n c b m d n i D/\ai w u/\l.take i=l2.take i) l.length
  ⟨0,_,by omega,by omega,rfl,ao.refl _ _,rfl⟩ ?_
 rintro q env u ⟨i,D,rfl,J,rfl,k,C⟩;rw [Pz];refine a' (λH=>?_) (λG=>?_)
 ·rintro w1 o;have B:ai u w1:=by rw [o];exact cD _
  clear o;have f:=k.new B;have p:l[i]?=some l[i]:=bF (by omega);have g:l2[i]?=some (l2[i]'(by omega)):=bF (by omega);generalize l[i]=x at p;generalize l2[i]=y at g;refine ⟨λy=>ai w1 y,ao.refl _ _,?_⟩;refine iR (cells:=aJ.cells) aJ.len (by decide) (E.new f) p rfl I λb1 K s=>aJ.aS x ⟨λz au=>kR (i:=0) λj v h=>by simpa using s z au j v h,?_⟩
  refine iR (cells:=aJ.cells) aJ.len (by decide) (F.new f) g rfl hm λaA L t=>aJ.aS y ⟨λz au=>kR (i:=0) λj v h=>by simpa using t z au j v h,?_⟩
  refine IH LW Nz KL (xs:=x.cells) (ys:=y.cells) ⟨rfl,rfl,rfl,rfl,rfl,rfl,rfl,rfl,rfl,trivial⟩ ?_;refine er (λA=>⟨?_,f⟩) (λhe=>?_)
  ·rw [decide_eq_false];intro r;subst r;rw [p] at g;rw [(yZ x y).2 (nN g)] at A;cases A
  ·rw [bC (x:=(i:Int)+1) (by omega) (by omega)];refine ⟨l.length - (i+1),by omega,i+1,_,rfl,by omega,rfl,f,?_⟩;rw [e7,e7,C,p,g,(yZ x y).1 he]
 ·rw [PC];refine ⟨?_,k⟩;rw [hO (by omega),hO (by omega)] at C;rw [decide_eq_true C]
def fJ (L:bb) (lines:Int):Bool:=decide (L.length=120) && (ef (L.drop 8) lines == 0)
def cT (L:bb) (lines:Int):Int×List aJ:=if fJ L lines=true then et (L.drop 8) lines else (0,[])
def f' (L:bb) (lines:Int):Bool:=fJ L lines && (fN (cT L lines).1 == L.getD 0 0)
def fe (L:bb) (lines:Int):Int×List aJ:=if f' L lines=true then cT L lines else (0,[])
structure rF (w:ak) (a:al) (n c:Nat) (L:bb):Prop where
 rd:bh w a (us L)
 len:n=L.length
 cap:n<=c
 u64:∀ x ∈ L,b8 x
 eA:n<=1000
theorem rF.new {w w':ak} {a:al} {n c:Nat} {L:bb} (h:rF w a n c L) (b:ai w w'):rF w' a n c L:=⟨h.rd.new b,h.len,h.cap,h.u64,h.eA⟩
theorem eW.zero {w w':ak} {R:Int×List aJ} {last a:a4} (b:R=(0,[])) (d:a=last) (e:ai w w'):eW w R last (.tuple #[iF.val,a]) w':=by subst b d;exact ⟨none,0,rfl,e,yD _,λk c=>absurd c nr⟩
theorem vh {w:ak} {a:al} {n c:Nat} {L:bb} (lines:Int) (h:rF w a n c L):a_ 228 [.slice a n c,.int .i64 lines] w (eW w (cT L lines) (.bool (fJ L lines))):=by
 refine bc Tryz.func228 ?_;rw [UV];rintro b1 w1 t r;obtain ⟨f,g⟩:=bl t r;have f:av w1 b1 iF.cells ek:=f;clear r;have hlen:=h.len;have E:=h.cap;have F:=h.eA;refine dw (λe=>?_) (λe=>?_)
 ·have p:fJ L lines=false:=by unfold fJ;rw [decide_eq_false (by omega)];rfl
  refine oT f rfl iF (K:=λres s=>eW w (cT L lines) (.bool (fJ L lines)) (.tuple #[res.val,.bool false]) s) λP l _=>eW.zero ?_ ?_ (g.trans l λk y e=>by omega)
  ·unfold cT;rw [if_neg (by rw [p];simp)]
  ·rw [p]
 have z:n=120:=by omega
 obtain ⟨b,o,rfl⟩:∃ b o,a=some ⟨b,o,none⟩:=by
  rcases h.rd with e | ⟨b,o,e,_⟩
  ·have:=congrArg List.length e;rw [hC,p4] at this;omega
  ·exact ⟨b,o,e⟩
 refine kt (by omega) (by omega) (by omega) (by omega) (by omega) λR C=>?_
 rcases C with rfl | ⟨e,_⟩;case inr=>omega
 have G:((n:Nat):Int).toNat - (8:Int).toNat=n - 8:=by simp
 have H:((c:Nat):Int).toNat - (8:Int).toNat=c - 8:=by simp
 rw [G,H];have B:bh w1 (some ⟨b,o+(8:Int).toNat * 1,none⟩) (us (L.drop 8)):=by have:=(h.rd.new g).drop 8;rwa [show (us L).drop 8=us (L.drop 8) by simp [us]] at this
 refine aC (LV lines B (by rw [lZ];omega) (by omega) (λx O=>h.u64 x (oP O)) (by omega)) ?_;rintro v s ⟨pa,cap,rfl,j,d,q⟩;refine bX.aS ⟨(et (L.drop 8) lines).1,pa,(et (L.drop 8) lines).2.length,cap⟩ ⟨_,rfl,?_⟩;refine ea (vs:=bX.cells ⟨(et (L.drop 8) lines).1,pa,(et (L.drop 8) lines).2.length,cap⟩) rfl (bX.single _) λaA Q J D i=>?_
 refine bX.aS ⟨(et (L.drop 8) lines).1,pa,(et (L.drop 8) lines).2.length,cap⟩ ⟨bK D rfl,?_⟩;have p:fJ L lines=(ef (L.drop 8) lines == 0):=by unfold fJ;rw [decide_eq_true (by omega)];rfl
 have I:cT L lines=et (L.drop 8) lines:=by
  unfold cT;rw [p];split
  ·rfl
  ·rename_i A;unfold et;rw [if_neg (by simpa using A)]
 rw [I,p];have M:=g.size;have N:=j.size;refine oT (ai.aj (j.new i) f) rfl ⟨(et (L.drop 8) lines).1,pa,(et (L.drop 8) lines).2.length,cap⟩ (K:=λres s=>eW w (et (L.drop 8) lines) (.bool (ef (L.drop 8) lines == 0)) (.tuple #[res.val,.bool (ef (L.drop 8) lines == 0)]) s) λP l _=>?_
 exact ⟨pa,cap,rfl,((g.new j).new i).trans l λk y e=>by omega,⟨(d.new i).rd.az l (g9 (d.new i).rd λk u e=>by have:=q k u;have:=f.lt;omega),d.len,d.eA,d.u64⟩,λk l=>by have:=q k l;omega⟩
theorem Aj {w:ak} {a:al} {n c:Nat} {L:bb} (lines:Int) (h:rF w a n c L):a_ 246 [.slice a n c,.int .i64 lines] w (eW w (fe L lines) (.bool (f' L lines))):=by
 refine bc Tryz.func246 ?_;rw [T2];rintro b1 w1 A s;obtain ⟨g,d⟩:=bl A s;have g:av w1 b1 iF.cells ek:=g;clear s;refine aC (vh lines (h.new d)) ?_;rintro v z ⟨pa,cap,rfl,p,f,r⟩;refine bX.aS ⟨(cT L lines).1,pa,(cT L lines).2.length,cap⟩ ⟨_,rfl,?_⟩;refine ea (vs:=bX.cells ⟨(cT L lines).1,pa,(cT L lines).2.length,cap⟩) rfl (bX.single _) λaA N P t j=>?_
 have R:=d.size;have S:=p.size;have b:=p.new j;have no:f' L lines=false->∀ {u:ak},ai N u->eh u ⟨b1,0,none⟩ 0 iF.cells/\∀ x,x=ct u ⟨b1,0,none⟩ 0 iF.cells->bX.ex λres=>b6 x ⟨b1,0,none⟩ 0 res.cells/\x=x/\eW w (fe L lines) (.bool (f' L lines)) (.tuple #[res.val,.bool false]) x:=by intro J u q;refine oT (ai.aj (b.new q) g) rfl iF (K:=λres z=>eW w (fe L lines) (.bool (f' L lines)) (.tuple #[res.val,.bool false]) z) λT l _=>eW.zero (if_neg (by rw [J];simp)) (by rw [J]) ((d.new (b.new q)).trans l λk E e=>by omega)
 refine er (λQ=>no (by unfold f';rw [Q];rfl) (ao.refl _ _)) (λy=>⟨_,t.cell (i:=0) rfl,?_⟩);have hw:=y;unfold fJ at hw;simp only [eY,decide_eq_true_eq,beq_iff_eq] at hw;have O:cT L lines=((L.drop 8).getD 0 0,hn (L.drop 8) ((L.drop 8).getD 1 0).toNat):=by unfold cT et;rw [if_pos y,if_pos hw.2]
 have G:1<=(cT L lines).1/\(cT L lines).1<1073741824:=by
  rw [O];have o:=hw.2;unfold ef at o;split at o
  ·omega
  split at o
  ·omega
  split at o
  ·omega
  split at o
  ·omega
  rename_i _ _ _ H;have H:fr ((L.drop 8).getD 0 0) (hn (L.drop 8) ((L.drop 8).getD 1 0).toNat) lines=0:=by omega
  obtain ⟨_,M,_⟩:=ji H;exact ⟨M.1,M.2.1⟩
 refine aC (y2 N G) ?_;rintro v U ⟨rfl,rfl⟩;refine ⟨_,_,rfl,nL ((h.rd.new d).new b) (i:=0) (by omega) h.len rfl λdi ga B=>⟨_,B _ (ao.refl _ _),dw (λF=>no ?_ (ao.refl _ _)) (λhe=>?_)⟩⟩
 ·unfold f';rw [y,show (fN (cT L lines).1 == L.getD 0 0)=false from beq_eq_false_iff_ne.2 F];rfl
 have I:f' L lines=true:=by unfold f';rw [y,show (fN (cT L lines).1 == L.getD 0 0)=true from beq_iff_eq.2 he];rfl
 have C:fe L lines=cT L lines:=if_pos I;rw [I,C];refine bX.aS ⟨(cT L lines).1,pa,(cT L lines).2.length,cap⟩ ⟨bK t rfl,?_⟩;refine oT (ai.aj b g) rfl ⟨(cT L lines).1,pa,(cT L lines).2.length,cap⟩ (K:=λres z=>eW w (cT L lines) (.bool true) (.tuple #[res.val,.bool true]) z) λT l _=>?_
 exact ⟨pa,cap,rfl,(d.new b).trans l λk E e=>by omega,⟨(f.new j).rd.az l (g9 (f.new j).rd λk D e=>by have:=r k D;have:=g.lt;omega),f.len,f.eA,f.u64⟩,λk l=>by have:=r k l;omega⟩
def vM (a b:Int×List aJ):Bool:=a.1 == b.1 && decide (a.2=b.2)
theorem NB {w:ak} {p q:bX} {P Q:List aJ} (h:i0 w p.ei p.dI P) (o:i0 w q.ei q.dI Q):a_ 252 [p.val,q.val] w λv w'=>v=.bool (vM (p.Seq,P) (q.Seq,Q))/\ai w w':=by
 refine bc Tryz.func252 ?_;rw [Vd];rintro b1 w1 j e;obtain ⟨c,l⟩:=bl j e;have c:av w1 b1 p.cells ek:=c;clear e;rintro aA r k f;obtain ⟨a,d⟩:=bl k f;have a:av r aA q.cells ek:=a;clear f;have b:=ai.aj d c;have g:=l.new d;unfold vM;refine ⟨_,b.cell (i:=0) rfl,_,a.cell (i:=0) rfl,dJ (λhe=>⟨_,_,_,b.cell (i:=1) rfl,_,_,_,a.cell (i:=1) rfl,?_⟩) (λhe=>⟨?_,g⟩)⟩
 ·refine aC (NA (h.new g).rd h.len (o.new g).rd o.len (by have:=h.eA;have:=h.len;omega)) ?_;rintro v s ⟨rfl,n⟩;refine ⟨_,rfl,?_,g.new n⟩;simp [he]
 ·simp [he]
end
section
open IntKind
variable (w:ak) (R:cA) {a b c:Nat} {i k l:Int} {s:al}
theorem Rt (e:aZ):bf prog f220 [a9 a,e.val,ab i,ab k] R w=(aR w e.cells.toArray 116 λl j=>aR j #[ab 0,ab 0,ab 0,ab 0,ah 0,ah 0,a6,ah 0,ab 0] 158 λf g=>ig g (af l 0) λr=>eL 245 #[a9 a,r.val,.agg #[ab 1,ab 0,ab i,ab k,ah 0,ah 0,a6,ah 0,ab 0]] g λc h=>a8 h (af f 0) 0 c.cells λd=>lO d (af f 0) λb=>d=d/\R b.val d):=by kernel_rfl
theorem Ru:bf prog f221 [a9 a,ae s b c] R w=(mz w (af a 8) λt=>jq 116 #[.pointer t,ae s b c] w λe d f g j=>cond (!g) (R (.tuple #[a6,ad false]) j) (cm 242 #[ae e d f] j λh k=>cond (h != 0) (du 222 #[a9 a,ab h] k λi l=>R (.tuple #[a6,ad i]) l) (R (.tuple #[ae e d f,ad true]) k))):=by kernel_rfl
theorem Rv:bf prog f222 [a9 a,ab i] R w=(a8 w (af a 15) 0 [ab i,ab 0,ab 0,ab 0,ah 0] λb=>R (ad false) b):=by kernel_rfl
theorem Sg (e:aZ):bf prog f223 [a9 a,e.val,ab i,ah k,ah l] R w=(aR w e.cells.toArray 116 λm j=>aR j #[ab 0,ab 0,ab 0,ab 0,ah 0,ah 0,a6,ah 0,ab 0] 158 λf g=>ig g (af m 0) λr=>eL 245 #[a9 a,r.val,.agg #[ab 3,ab 0,ab i,ab 0,ah k,ah l,a6,ah 0,ab 0]] g λc h=>a8 h (af f 0) 0 c.cells λd=>lO d (af f 0) λb=>d=d/\R b.val d):=by kernel_rfl
theorem QA (h:aZ) (i:aG):bf prog f245 [a9 a,h.val,i.val] R w=(aR w h.cells.toArray 116 λm k=>aR k i.cells.toArray 158 λn p=>aR p #[ab 0,ab 0,ab 0,ab 0,ah 0,ah 0,a6,ah 0,ab 0] 158 λg j=>cq j λl f=>z8 f (af a 3) λd=>hb f (af m 0) λr=>F2 f (af n 0) λo=>eL 241 #[d.val,r.val,ad true,o.val] l λb q=>a8 q (af g 0) 0 b.cells λe=>lO e (af g 0) λc=>e=e/\R c.val e):=by kernel_rfl
theorem Q4 (g:aZ):bf prog f250 [a9 a,g.val,ab i,ae s b c] R w=(aR w g.cells.toArray 116 λm l=>aR l #[ab 0,ab 0,ab 0,ab 0,ah 0,ah 0,a6,ah 0,ab 0] 158 λh j=>ig j (af m 0) λr=>eL 245 #[a9 a,r.val,.agg #[ab 2,ab 0,ab i,ab 0,ah 0,ah 0,ae s b c,ah 0,ab 0]] j λf k=>a8 k (af h 0) 0 f.cells λe=>lO e (af h 0) λd=>e=e/\R d.val e):=by kernel_rfl
end
section
structure y7 (j:b2):Prop where
 a3:0<=j.a3/\j.a3<6
 inc:1<=j.inc/\j.inc<=59
 num:0<=j.v.number/\j.v.number<16
 mem:0<j.v.mem.length/\j.v.mem.length<=5
 ee:∀ m ∈ j.v.mem,1<=m.ck/\m.ck<=31
 lines:98<=j.lines/\j.lines<=256
 dead:0<=j.dead/\j.dead<6
 dR:1<=j.dR/\j.dR<=60
 prev:b8 j.prev
theorem KM {j:b2} (h:j.valid=0) (hu:b8 j.prev):y7 j:=by
 unfold b2.valid at h;split at h
 ·omega
 rename_i g;have g:fW j.inc j.a3=0:=by omega
 split at h
 ·omega
 rename_i p;split at h
 ·omega
 rename_i a;have a:j.v.valid 5=0:=by omega
 obtain ⟨k,i⟩:=uC g;have c:=h;unfold b2.tail at c;split at c
 ·omega
 rename_i t1;split at c
 ·omega
 rename_i t2;split at c
 ·omega
 rename_i t3;unfold jd.valid at a;split at a
 ·omega
 split at a
 ·omega
 rename_i l;split at a
 ·omega
 rename_i n;split at a
 ·omega
 rename_i d;split at a
 ·omega
 rename_i f;have f:j.v.mem.all mE=true:=by simpa using f
 have d:(List.range j.v.mem.length).all (j5 (5:Nat) j.v.mem)=true:=sZ _▸d;have o:=DQ d;refine ⟨i,k,by omega,by omega,λm hm=>?_,by omega,by omega,?_,hu⟩
 ·have:=gQ.1 f m hm;unfold mE at this;exact of_decide_eq_true this
 ·by_cases e:j.dead=j.a3
  ·have:j.dR=j.inc:=by
    by_cases b:j.dR=j.inc
    ·exact b
    ·exact absurd ⟨e,b⟩ t2
   omega
  ·have:¬ (j.dR<2\/60<j.dR\/Int.tmod j.dR 2≠0):=λb=>t3 ⟨e,b⟩
   omega
abbrev n8:TypeId:=220
abbrev o6:TypeId:=175
structure fZ where
 fm:al
 jU:Nat
 lc:Nat
 clock:Int
def iz (o:Int×Int):dz:=⟨o.1,0,0,0,o.2⟩
def pF (r:dr) (tb:Nat) (m:aZ) (tag:Int) (V:fZ) (o:Int×Int):ax:=r.cells++(ptr tb::m.cells)++[.int .u64 tag,.slice V.fm V.jU V.lc,.int .u64 V.clock]++(iz o).cells
structure df (w0 u:ak) (aH tb:Nat) (r:dr) (m:aZ) (j:b2) (V:fZ) (o:Int×Int):Prop where
 aj:av u aH (pF r tb m (gl j.inc j.a3) V o) n8
 bN:q8 w0 r j
 cj:y7 j
 mem:j.v.mem[0]?=some m
 new:ai w0 u
 pE:w0.heap.size<=aH
 kC:w0.heap.size<=tb
 ne:aH≠tb
theorem df.bx {w0 u bq:ak} {aH tb:Nat} {r:dr} {m:aZ} {j:b2} {V:fZ} {o:Int×Int} (h:df w0 u aH tb r m j V o) (a:ai u bq):df w0 bq aH tb r m j V o:=
 ⟨ai.aj a h.aj,h.bN,h.cj,h.mem,h.new.new a,h.pE,h.kC,h.ne⟩
theorem df.az {w0 u bq:ak} {aH tb:Nat} {r:dr} {m:aZ} {j:b2} {V:fZ} {o:Int×Int} (h:df w0 u aH tb r m j V o) {M:a5} (b:ao M u bq) (a:∀ k,M k->w0.heap.size<=k/\k≠aH):df w0 bq aH tb r m j V o:=
 ⟨b.aj h.aj λe=>(a _ e).2 rfl,h.bN,h.cj,h.mem,h.new.trans b λk c e=>by have:=(a k e).1;omega,h.pE,h.kC,h.ne⟩
theorem df.num {w0 u:ak} {aH tb:Nat} {r:dr} {m:aZ} {j:b2} {V:fZ} {o:Int×Int} (h:df w0 u aH tb r m j V o):r.View.Number=j.v.number:=by obtain ⟨M,an⟩:=h.bN.view;exact an.num
section
variable {w0 w:ak} {aH tb:Nat} {r:dr} {bO:aZ} {j:b2} {V:fZ} {o:Int×Int}
theorem H6 (h:df w0 w aH tb r bO j V o) {m:aZ} (G:ec m.ck) {M:a5} {v:aG} {x:aP} (an:cE M w v x) :
  a_ 245 [ptr aH,m.val,v.val] w λy w'=>∃ bj:aG,y=bj.val/\cE (λk=>k<w.heap.size) w' bj (addr j.v.number m x)/\ai w w':=by
 refine bc Tryz.func245 ?_;rw [ptr,QA];rintro b1 w1 D t;obtain ⟨g,n⟩:=bl D t;have g:av w1 b1 m.cells eH:=g;clear t;rintro aA T E u;obtain ⟨i,f⟩:=bl E u;have i:av T aA v.cells cy:=i;clear u;rintro L K F z;obtain ⟨d,c⟩:=bl F z;have d:av K L (aG.cells ⟨0,0,0,0,0,0,none,0,0,0,0⟩) cy:=d;clear z;rintro C A;have b:ai K C:=by rw [A];exact cD _
 clear A;have a:=((n.new f).new c).new b;have P:=n.size;have Q:=f.size;have R:=c.size;have S:=b.size;have N:=h.bx a;have q:=h.num;have W:=h.cj.num;refine ⟨λy=>ai C y,ao.refl _ _,cX.aS r.View ⟨λy B=>bK (ai.aj B N.aj) rfl,aZ.aS m ⟨λy B=>bK (ai.aj (((f.new c).new b).new B) g) rfl,aG.aS v ⟨λy B=>bK (ai.aj ((c.new b).new B) i) rfl,?_⟩⟩⟩⟩;refine aC (A5 C (by omega) (by omega) G (an.az (ao.b3 a) λ_ _ e=>e)) ?_;rintro y X ⟨bj,rfl,s,p⟩;refine aG.aS bj ⟨rfl,dO (ai.aj (b.new p) d) rfl (aG.single _) λU I l=>?_⟩;have J:=d.lt;refine aG.aS bj ⟨bK I rfl,rfl,bj,rfl,?_,(a.new p).trans l λk O e=>by omega⟩;rw [q] at s;have H:cE (λk=>k<C.heap.size) U bj (addr j.v.number m x):=s.az (l.mono λk _ e=>by omega) λ_ _ e=>e
 exact H.az (ao.refl _ _) λk _ e=>by omega
theorem zf (h:df w0 w aH tb r bO j V o) {m:aZ} (z:ec m.ck) {M:a5} {v:aG} {x:aP} (an:cE M w v x) :
  ∀ b1 w1,b1=w.heap.size->w1=w.alloc (.cells m.cells.toArray eH)->∀ aA i,aA=w1.heap.size->i=w1.alloc (.cells #[.int .i64 0,.int .i64 0,.int .i64 0,.int .i64 0,.int .u64 0,.int .u64 0,.slice none 0 0,.int .u64 0,.int .i64 0] cy)->aZ.ex λr=>b6 i ⟨b1,0,none⟩ 0 r.cells/\
   Calls prog 245 #[ptr aH,r.val,v.val] i λe D=>aG.ex λa=>e=.returned a.val/\eh D ⟨aA,0,none⟩ 0 a.cells/\∀ d,d=ct D ⟨aA,0,none⟩ 0 a.cells->aG.ex λres=>b6 d ⟨aA,0,none⟩ 0 res.cells/\d=d/\
    (∃ bj:aG,res.val=bj.val/\cE (λk=>k<w.heap.size) d bj (addr j.v.number m x)/\ai w d):=by
 rintro b1 w1 t q;obtain ⟨g,n⟩:=bl t q;have g:av w1 b1 m.cells eH:=g;clear q;rintro aA i u s;obtain ⟨c,f⟩:=bl u s;have c:av i aA (aG.cells ⟨0,0,0,0,0,0,none,0,0,0,0⟩) cy:=c;clear s;have b:=n.new f;have G:=n.size;have H:=f.size;refine aZ.aS m ⟨bK (ai.aj f g) rfl,?_⟩;refine aC (H6 (h.bx b) z (an.az (ao.b3 b) λ_ _ e=>e)) ?_;rintro y D ⟨bj,rfl,A,p⟩;refine aG.aS bj ⟨rfl,dO (ai.aj p c) rfl (aG.single _) λd C l=>?_⟩;have E:=c.lt;refine aG.aS bj ⟨bK C rfl,rfl,bj,rfl,?_,(b.new p).trans l λk F e=>by omega⟩;have B:cE (λk=>k<i.heap.size) d bj (addr j.v.number m x):=A.az (l.mono λk _ e=>by omega) λ_ _ e=>e
 exact B.az (ao.refl _ _) λk _ e=>by omega
abbrev zg (w:ak) (x:aP) (y:a4) (w':ak):Prop:=∃ bj:aG,y=bj.val/\cE (λk=>k<w.heap.size) w' bj x/\ai w w'
def lI (j:b2) (m:aZ) (at_:Int) (ws:bb):aP:=addr j.v.number m ⟨2,0,at_,0,0,0,ws,0,0⟩
def mD (j:b2) (m:aZ) (at_ n:Int):aP:=addr j.v.number m ⟨1,0,at_,n,0,0,[],0,0⟩
def rG (j:b2) (m:aZ) (at_ old new:Int):aP:=addr j.v.number m ⟨3,0,at_,0,old,new,[],0,0⟩
theorem xG (h:df w0 w aH tb r bO j V o) {m:aZ} (b:ec m.ck) (at_:Int) {a:al} {n c:Nat} {ws:bb} (i:bh w a (us ws)) (g:n=ws.length) (e:n<=c) (d:a=none->ws=[]) (hu:∀ x ∈ ws,b8 x) (f:ws.length<=1000000) :
  a_ 250 [ptr aH,m.val,.int .i64 at_,.slice a n c] w (zg w (lI j m at_ ws)):=by
 refine bc Tryz.func250 ?_;rw [ptr,Q4];exact zf h b (v:=⟨2,0,at_,0,0,0,a,n,c,0,0⟩) (x:=⟨2,0,at_,0,0,0,ws,0,0⟩) (pK (k:=2) (at_:=at_) (nn:=0) (old:=0) (new:=0) i g e d hu f hd hd)
theorem uH (h:df w0 w aH tb r bO j V o) {m:aZ} (b:ec m.ck) (at_ n:Int):a_ 220 [ptr aH,m.val,.int .i64 at_,.int .i64 n] w (zg w (mD j m at_ n)):=by refine bc Tryz.func220 ?_;rw [ptr,Rt];exact zf h b (v:=⟨1,0,at_,n,0,0,none,0,0,0,0⟩) (x:=⟨1,0,at_,n,0,0,[],0,0⟩) (pK (k:=1) (at_:=at_) (nn:=n) (old:=0) (new:=0) (a:=none) (n:=0) (c:=0) (ws:=[]) (.inl rfl) rfl (by omega) (λ_=>rfl) (λx d=>by cases d) (by simp) hd hd)
theorem vi (h:df w0 w aH tb r bO j V o) {m:aZ} (b:ec m.ck) (at_:Int) {old new:Int} (e:b8 old) (d:b8 new):a_ 223 [ptr aH,m.val,.int .i64 at_,.int .u64 old,.int .u64 new] w (zg w (rG j m at_ old new)):=by refine bc Tryz.func223 ?_;rw [ptr,Sg];exact zf h b (v:=⟨3,0,at_,0,old,new,none,0,0,0,0⟩) (x:=⟨3,0,at_,0,old,new,[],0,0⟩) (pK (k:=3) (at_:=at_) (nn:=0) (old:=old) (new:=new) (a:=none) (n:=0) (c:=0) (ws:=[]) (.inl rfl) rfl (by omega) (λ_=>rfl) (λx f=>by cases f) (by simp) e d)
theorem DV (h:df w0 w aH tb r bO j V o) (c:Int×Int) {K:aE} (d:∀ w',ao (λk=>k=aH) w w'->df w0 w' aH tb r bO j V c->K w') :
  eh w ⟨aH,15,none⟩ 0 (iz c).cells/\∀ w1,w1=ct w ⟨aH,15,none⟩ 0 (iz c).cells->K w1:=by
 refine ⟨f7 h.aj (cO 20) (dz.single _),λw1 b=>?_⟩;have a:ao (λk=>k=aH) w w1:=by rw [b];exact hT _ _ _ _ _
 refine d w1 a ⟨?_,h.bN,h.cj,h.mem,h.new.trans a λk f e=>by have:=h.pE;omega,h.pE,h.kC,h.ne⟩;rw [b];exact h.aj.ct (vs:=(iz c).cells) (o:=15) (i:=0)
theorem xX (h:df w0 w aH tb r bO j V o) (e:Int):a_ 222 [ptr aH,.int .i64 e] w λv w'=>v=.bool false/\ao (λk=>k=aH) w w'/\df w0 w' aH tb r bO j V (e,0):=by refine bc Tryz.func222 ?_;rw [ptr,Rv];exact DV h (e,0) λw' b a=>⟨rfl,b,a⟩
end
structure eG (A:a5) (w0 u:ak) (aH tb B:Nat) (r:dr) (m:aZ) (j:b2) (V:fZ) (R:cn) (bq:ak):Prop where
 az:ao (λk=>k=tb\/k=aH) u bq
 eE:df w0 bq aH tb r m j V R.out
 fO:∃ h8:gg,eO A w0 bq tb h8 R.a7/\h8.dC=R.dC/\(match R.ask with
  |none=>h8.c5=0
  |some vs=>0<vs.length/\∃ w1,ai w0 w1/\B<=w1.heap.size/\bH w1 bq h8.aa h8.c5 h8.ac vs)
theorem np {A:a5} {w0 u:ak} {aH tb:Nat} {r:dr} {m:aZ} {j:b2} {V:fZ} (w:df w0 u aH tb r m j V (0,0)) {T:gg} {G:List (List aL)} (z:eO A w0 u tb T G) (C:fT T) {w1:ak} (Y:ai w0 w1) (VB:tb<w1.heap.size) (VA:aH<w1.heap.size) {a:al} {n cap:Nat} {vs:List aP} (an:bH w1 u a n cap vs) (Vu:vs.length<=100000) :
  a_ 221 [ptr aH,.slice a n cap] u λv bq=>∃ (dA:al) (dc:Nat) (raw:List bR),v=.tuple #[.slice dA raw.length dc,.bool (cb G vs 0).ok]/\
   eG A w0 u aH tb w1.heap.size r m j V (cb G vs 0) bq/\bh w0 dA (fM raw).flatten/\gS A w0 raw (cb G vs 0).done/\((cb G vs 0).ok=true->raw.length=vs.length):=by
 refine bc Tryz.func221 ?_;rw [ptr,Ru];obtain ⟨cf,p,J⟩:=an.ex;have VE:=J.1;have U:=an.len;have VC:=z.aj.lt;have S:=w.ne;refine ⟨_,w.aj.cell (i:=8) rfl,?_⟩;have E:n=cf.length:=by omega
 rw [E] at p;have Vs:=Dj (A:=A) w.new w.kC z.aj z.a7 z.dQ z.gc (aa:=a) (ac:=cap) p.rd J (by omega);rw [<-E] at Vs;refine aC Vs ?_;rintro v Z ⟨Vr,dA,dc,raw,rfl,N,s,I,g,D,Q,P,K,f⟩;rw [C.dC,Bool.false_or] at K;have q:df w0 Z aH tb r m j V (0,0):=w.az s λk e=>⟨by have:=w.kC;omega,by omega⟩
 have VD:bH w1 Z a n cap vs:=an.az s λk e=>by omega
 refine ⟨_,_,_,_,rfl,?_⟩;have fin:∀ {y:ak},ao (λk=>k=aH) Z y->∀ {R:cn},R.a7=(batch G vs).a7->R.dC=(batch G vs).dC->R.ask=(batch G vs).ask->df w0 y aH tb r m j V R.out->eG A w0 u aH tb w1.heap.size r m j V R y:=by
  intro y l R Vv Vw Vx W;have o:ao (λk=>k=tb\/k=aH) u y:=(s.mono λ_ _ e=>Or.inl e).trans l λk _ e=>.inr e
  refine ⟨o,W,Vr,?_,by rw [K,Vw],?_⟩
  ·rw [Vv];exact ⟨l.aj N (λe=>S e.symm),D,Q,P⟩
  ·rw [Vx];cases L:(batch G vs).ask with
   |none=>rw [L] at f;obtain ⟨_,M,_⟩:=f;show Vr.c5=0;rw [M];exact C.c5
   |some ws=>rw [L] at f;obtain ⟨Vy,M,Vz⟩:=f;have:=BQ L;subst this;refine ⟨Dm L,w1,Y,cO _,?_⟩;rw [Vy,M,Vz,<-U];exact an.az o λk e=>by rcases e with e | e<;>omega
 unfold cb;refine er (λc=>?_) (λc=>?_)
 ·rw [if_pos c];exact ⟨none,0,[],rfl,fin (ao.refl _ _) rfl rfl rfl q,.inl rfl,⟨rfl,λi v x an=>by simp at an⟩,λh=>by cases h⟩
 ·rw [if_neg (by rw [c];simp)];obtain ⟨F,H⟩:=CT c;refine aC (Cl q.new rfl I g (by have:=g.1;have:=@qM G vs;omega)) ?_;rintro v bu ⟨rfl,t⟩;have B:=q.bx t;refine ⟨_,rfl,dw (λe=>?_) (λe=>?_)⟩
  ·rw [if_pos e];refine aC (xX B (ho (batch G vs).done)) ?_;rintro v y ⟨rfl,l,O⟩;exact ⟨_,rfl,none,0,[],rfl,fin ((ao.b3 t).trans l λ_ _ e=>e) rfl H.symm F.symm O,.inl rfl,⟨rfl,λi v x an=>by simp at an⟩,λh=>by cases h⟩
  ·rw [if_neg (by simpa using e)];refine ⟨dA,dc,raw,rfl,fin (ao.b3 t) rfl H.symm F.symm B,I,g,λ_=>?_⟩
   by_cases X:vs.length=0
   ·have:=g.1;have:=@qM G vs;omega
   ·have b:=g.1;unfold batch at c b;rw [if_neg X] at c b;cases G with
    |nil=>cases c
    |cons d VF=>
     simp only at c b;split at c
     ·rename_i Vt;rw [if_pos Vt] at b;have:=xV Vt;simp only at b;omega
     ·cases c
end
end Go.Proofs.YtmkljjbioomepaaGreat
