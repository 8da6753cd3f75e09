import Derived.Test.YtegepanmkjemjaaGreatw01
import Derived.Laws.StructEq
import Derived.Test.YtegepanmkjemjaaGreatw30
import Derived.Test.YtegepanmkjemjaaGreatw16
import Derived.Test.YtegepanmkjemjaaGreatProg
import Derived.Test.YtegepanmkjemjaaGreatw03
import Derived.Test.YtegepanmkjemjaaGreatw18
set_option linter.unusedVariables false
namespace Go.Mx
open Go.Eng
def yP (sz:TypeId→Nat) (f:TypeId→Option (List Bool)):List Field→Nat→Option (List Bool)
 | [],off=>some []
 |fd::fs,off=>match f fd.type with
  |some ks=>match fd.name != "_" && (Nat.beq fd.offset off && Nat.beq (sz fd.type) ks.length) with
   |true=>match yP sz f fs (off+ks.length) with
    |some r=>some (ks++r)
    |none=>none
   |false=>none
  |none=>none
def ug (P:Program):Nat→TypeId→Option (List Bool)
 | 0,_=>none
 |d+1,t=>match P.underlying t with
  |some (.int _)=>some [false]
  |some .bool=>some [true]
  |some (.struct fs)=>match P.stoodInHeld t with
   |true=>none
   |false=>yP (xy P) (ug P d) fs.toList 0
  |some (.array len e)=>match ug P d e with
   |some ks=>match Nat.beq (xy P e) ks.length with
    |true=>some (List.replicate len ks).flatten
    |false=>none
   |none=>none
  | _=>none
def cmp1:Bool→Value→Value→Prop
 |false,.int k _,.int j _=>k=j
 |true,.bool _,.bool _=>True
 | _,_,_=>False
def qV:List Bool→List Value→List Value→Prop
 | [],[],[]=>True
 |k::ks,x::xs,y::ys=>cmp1 k x y∧qV ks xs ys
 | _,_,_=>False
def eqv1:Value→Value→Bool
 | .int _ a,.int _ b=>a == b
 | .bool a,.bool b=>a == b
 | _,_=>true
def eqvL:List Value→List Value→Bool
 |x::xs,y::ys=>eqv1 x y && eqvL xs ys
 | _,_=>true
theorem qV.len:∀ {ks:List Bool} {xs ys:List Value},qV ks xs ys→xs.length=ks.length∧ys.length=ks.length
 | [],[],[],_=>⟨rfl,rfl⟩
 | _::_,_::_,_::_,⟨_,h⟩=>by simp [qV.len h]
theorem qV.split:∀ {ks ls:List Bool} {xs ys:List Value},qV (ks++ls) xs ys→qV ks (xs.take ks.length) (ys.take ks.length)∧qV ls (xs.drop ks.length) (ys.drop ks.length)∧
  eqvL xs ys=(eqvL (xs.take ks.length) (ys.take ks.length) && eqvL (xs.drop ks.length) (ys.drop ks.length))
 | [],ls,xs,ys,h=>⟨trivial,h,rfl⟩
 |k::ks,ls,x::xs,y::ys,⟨a,h⟩=>by
  obtain ⟨h1,h2,h3⟩:=qV.split h
  refine ⟨⟨a,h1⟩,h2,?_⟩
  show (eqv1 x y && eqvL xs ys)=((eqv1 x y && eqvL (xs.take ks.length) (ys.take ks.length)) && eqvL (xs.drop ks.length) (ys.drop ks.length))
  rw [h3,Bool.and_assoc]
theorem BJ {k:Bool}:∀ {xs ys:List Value},qV [k] xs ys→∃ x y,xs=[x]∧ys=[y]∧cmp1 k x y
 | [],[],h=>h.elim
 | [],_::_,h=>h.elim
 | _::_,[],h=>h.elim
 | [x],[y],h=>⟨x,y,rfl,rfl,h.1⟩
 | _::_::_,[_],h=>h.2.elim
 | [_],_::_::_,h=>h.2.elim
 | _::_::_,_::_::_,h=>h.2.elim
section
variable {P:Program}
def uh (P:Program) (t:TypeId) (xs:List Value):Value:=if isAgg? P t=true then .agg xs.toArray else xs.headD undef
theorem yQ {t:TypeId} {i:TypeInfo} {dsc:TypeDesc} (hi:P.info? t=some i) (hd:P.underlying t=some dsc) {cs:List Value} {off n:Nat} (hn:i.size=n) (hl:off+n≤cs.length) (h1:isAgg? P t=false→n=1) (w:World) :
  (part t cs.toArray off).run P w=.ok (uh P t ((cs.drop off).take n)) w:=by
 unfold part uh
 rw [Sem.run_bind,jU hd]
 simp only [Result.andThen_ok]
 split
 ·simp only [Sem.run_bind,Eng.run_sizeOf hi,Result.andThen_ok,Sem.run_pure,hn]
  congr 2
  apply Array.ext'
  simp [List.extract]
 ·rename_i ha
  have hn1:=h1 (by simpa using ha)
  subst hn1
  have hlt:off<cs.length:=by omega
  have hx:(cs.drop off).take 1=[cs[off]]:=by
   rw [List.drop_eq_getElem_cons hlt]
   rfl
  have hg:cs.toArray[off]?=some cs[off]:=by simp [hlt]
  rw [hx]
  simp only [hg]
  rfl
theorem xf {d:Nat} {t:TypeId} {n:List Bool} (h:ug P d t=some n):∃ i dsc,P.info? t=some i∧P.underlying t=some dsc:=by
 cases d with
 |zero=>cases h
 |succ d=>
  unfold ug at h
  cases hu:P.underlying t with
  |none=>rw [hu] at h;cases h
  |some dsc=>
   cases hi:P.info? t with
   |some i=>exact ⟨i,dsc,rfl,rfl⟩
   |none=>simp [Program.underlying,hi] at hu
theorem tJ {d:Nat} {t:TypeId} {n:List Bool} (h:ug P d t=some n) (ha:isAgg? P t=false):n.length=1:=by
 cases d with
 |zero=>cases h
 |succ d=>
  unfold ug at h
  unfold isAgg? at ha
  split at h
  ·cases h;rfl
  ·cases h;rfl
  ·rename_i hu;rw [hu] at ha;cases ha
  ·rename_i hu;rw [hu] at ha;cases ha
  ·cases h
def EqOk (P:Program) (D:Nat) (t:TypeId) (ks:List Bool):Prop:=∀ xs ys:List Value,qV ks xs ys→∀ w,(Op.equalIn D t (uh P t xs) (uh P t ys)).run P w=.ok (eqvL xs ys) w
theorem BK {t:TypeId} {ks:List Bool} {D off:Nat} {xs ys:List Value} (hE:EqOk P D t ks) {i:TypeInfo} {dsc:TypeDesc} (hi:P.info? t=some i) (hd:P.underlying t=some dsc) (hn:i.size=ks.length) (h1:isAgg? P t=false→ks.length=1)
  (hc:qV ks ((xs.drop off).take ks.length) ((ys.drop off).take ks.length)) (w:World) {α:Type} (K:Bool→Sem α) :
  ((do K (← Op.equalIn D t (← part t xs.toArray off) (← part t ys.toArray off))):Sem α).run P w=(K (eqvL ((xs.drop off).take ks.length) ((ys.drop off).take ks.length))).run P w:=by
 obtain ⟨l1,l2⟩:=hc.len
 rw [List.length_take,List.length_drop] at l1 l2
 cases hk:ks.length with
 |zero=>
  have:i.size=0:=by omega
  cases ha:isAgg? P t with
  |false=>have:=h1 ha;omega
  |true=>
   have run0:∀ cs:List Value,(part t cs.toArray off).run P w=.ok (uh P t []) w:=by
    intro cs
    unfold part uh
    rw [Sem.run_bind,jU hd,ha]
    simp only [Result.andThen_ok,if_true,Sem.run_bind,Eng.run_sizeOf hi,Sem.run_pure,this]
    congr 2
    apply Array.ext'
    simp [List.extract]
   rw [hk] at hc
   simp only [Sem.run_bind,run0,Result.andThen_ok]
   rw [hE [] [] hc]
   rfl
 |succ n=>
  rw [←hk]
  simp only [Sem.run_bind,yQ (cs:=xs) (off:=off) hi hd hn (by omega) h1 w,yQ (cs:=ys) (off:=off) hi hd hn (by omega) h1 w,Result.andThen_ok]
  rw [hE _ _ hc]
  rfl
theorem xg {d D:Nat} (hE:∀ t ks,ug P d t=some ks→EqOk P D t ks) {xs ys:List Value}:∀ (fs:List Field) (off:Nat) (ks:List Bool),yP (xy P) (ug P d) fs off=some ks→qV ks (xs.drop off) (ys.drop off)→
  ∀ w,(Op.eqFields D xs.toArray ys.toArray fs).run P w=.ok (eqvL (xs.drop off) (ys.drop off)) w
 | [],off,ks,h,hc=>by
  cases h
  intro w
  have h0:=hc.len
  rw [List.eq_nil_of_length_eq_zero h0.1]
  simp [Op.eqFields,eqvL]
 |fd::fs,off,ks,h,hc=>by
  unfold yP at h
  split at h
  rotate_left
  ·cases h
  rename_i ks1 hm
  split at h
  rotate_left
  ·cases h
  rename_i hb
  split at h
  rotate_left
  ·cases h
  rename_i ks2 hr
  cases h
  simp only [Bool.and_eq_true,bne_iff_ne,ne_eq] at hb
  obtain ⟨hnm,ho,hs⟩:=hb
  have ho:fd.offset=off:=Nat.eq_of_beq_eq_true ho
  have hs:xy P fd.type=ks1.length:=Nat.eq_of_beq_eq_true hs
  obtain ⟨c1,c2,c3⟩:=hc.split
  rw [List.drop_drop,List.drop_drop] at c2 c3
  have ih:=xg hE fs (off+ks1.length) ks2 hr c2
  intro w
  obtain ⟨i,dsc,hi,hd⟩:=xf hm
  have hsz:i.size=ks1.length:=by unfold xy at hs;rw [hi] at hs;exact hs
  unfold Op.eqFields
  rw [if_pos (by simpa using hnm),ho]
  have:=BK (K:=λr=>if (!r)=true then pure false else Op.eqFields D xs.toArray ys.toArray fs) (hE _ _ hm) hi hd hsz (tJ hm) c1 w
  refine Eq.trans this ?_
  rw [c3]
  cases hq:eqvL ((xs.drop off).take ks1.length) ((ys.drop off).take ks1.length) with
  |false=>rfl
  |true=>
   simp only [Bool.not_true,Bool.false_eq_true,if_false,Bool.true_and]
   exact ih w
theorem yR {D:Nat} {e:TypeId} {ks:List Bool} (hE:EqOk P D e ks) {i:TypeInfo} {dsc:TypeDesc} (hi:P.info? e=some i) (hd:P.underlying e=some dsc) (hn:i.size=ks.length) (h1:isAgg? P e=false→ks.length=1) {xs ys:List Value} (w:World) :
  ∀ (l:List Nat) (a:Nat),l=List.range' a l.length→qV (List.replicate l.length ks).flatten (xs.drop (a * ks.length)) (ys.drop (a * ks.length))→
   (forIn l ((none,()):Option Bool×Unit) (λi _=>do
    let r ← Op.equalIn D e (← part e xs.toArray (i * ks.length)) (← part e ys.toArray (i * ks.length))
    if (!r)=true then pure (ForInStep.done (some false,())) else pure (ForInStep.yield (none,()))):Sem (Option Bool×Unit)).run P w=.ok ((if eqvL (xs.drop (a * ks.length)) (ys.drop (a * ks.length))=true then none else some false),()) w
 | [],a,_,hc=>by
  have h0:=hc.len
  rw [List.eq_nil_of_length_eq_zero h0.1]
  simp [eqvL]
 |j::l,a,hr,hc=>by
  rw [List.length_cons,List.range'_succ] at hr
  simp only [List.cons.injEq] at hr
  obtain ⟨rfl,hr⟩:=hr
  rw [List.length_cons,List.replicate_succ,List.flatten_cons] at hc
  obtain ⟨c1,c2,c3⟩:=hc.split
  rw [List.drop_drop,List.drop_drop,←Nat.succ_mul] at c2 c3
  rw [List.forIn_cons,Sem.run_bind]
  have:=BK (K:=λr=>if (!r)=true then (pure (ForInStep.done (some false,())):Sem (ForInStep (Option Bool×Unit))) else pure (ForInStep.yield (none,()))) hE hi hd hn h1 c1 w
  rw [this,c3]
  have ih:=yR hE hi hd hn h1 w l (j+1) hr c2
  cases hq:eqvL ((xs.drop (j * ks.length)).take ks.length) ((ys.drop (j * ks.length)).take ks.length) with
  |false=>rfl
  |true=>
   simp only [Bool.not_true,Bool.false_eq_true,if_false,Bool.true_and]
   exact ih
theorem BL:∀ (d:Nat) (t:TypeId) (ks:List Bool),ug P d t=some ks→∀ D,d≤D→EqOk P D t ks
 | 0,_,_,h=>by cases h
 |d+1,t,ks,h=>by
  intro D hD xs ys hc w
  obtain ⟨D,rfl⟩:∃ D',D=D'+1:=⟨D - 1,by omega⟩
  have hD':d≤D:=by omega
  unfold ug at h
  split at h
  ·rename_i k hu
   cases h
   have ha:isAgg? P t=false:=by unfold isAgg?;rw [hu]
   obtain ⟨x,y,rfl,rfl,hxy⟩:=BJ hc
   unfold uh
   rw [ha]
   cases x<;>cases y<;>first | exact hxy.elim | skip
   have hk:_=_:=hxy
   subst hk
   refine (run_equalIn_int w D t _ k _ _ hu).trans ?_
   simp [eqvL,eqv1]
  ·rename_i hu
   cases h
   have ha:isAgg? P t=false:=by unfold isAgg?;rw [hu]
   obtain ⟨x,y,rfl,rfl,hxy⟩:=BJ hc
   unfold uh
   rw [ha]
   cases x<;>cases y<;>first | exact hxy.elim | skip
   refine (run_equalIn_bool' w D t _ _ hu).trans ?_
   simp [eqvL,eqv1]
  ·rename_i fs hu
   split at h
   ·cases h
   rename_i hst
   have ha:isAgg? P t=true:=by unfold isAgg?;rw [hu]
   have hf:P.fieldsOf t=fs:=by unfold Program.fieldsOf;rw [hu]
   have:=xg (λt ks h=>BL d t ks h D hD') fs.toList 0 ks h hc w
   unfold uh
   rw [if_pos ha,if_pos ha,run_equalIn_struct w D t _ _ (by rw [hf];exact hu) hst,hf]
   exact this
  ·rename_i len e hu
   split at h
   rotate_left
   ·cases h
   rename_i ks1 hm
   split at h
   rotate_left
   ·cases h
   rename_i hs
   cases h
   have hs:xy P e=ks1.length:=Nat.eq_of_beq_eq_true hs
   obtain ⟨i,dsc,hi,hd⟩:=xf hm
   have hsz:i.size=ks1.length:=by unfold xy at hs;rw [hi] at hs;exact hs
   have ha:isAgg? P t=true:=by unfold isAgg?;rw [hu]
   have:=yR (BL d e ks1 hm D hD') hi hd hsz (tJ hm) (xs:=xs) (ys:=ys) w (List.range' 0 len) 0 (by simp) (by simpa using hc)
   unfold uh
   rw [if_pos ha,if_pos ha]
   simp only [Op.equalIn,Sem.run_bind,run_underlying hu,Result.andThen_ok,Eng.run_sizeOf hi,hsz]
   simp only [Nat.zero_mul,List.drop_zero] at this
   rw [Std.Legacy.Range.forIn_eq_forIn_range']
   simp only [Std.Legacy.Range.size,Nat.sub_zero,Nat.add_one_sub_one,Nat.div_one]
   rw [this]
   cases eqvL xs ys<;>rfl
  ·cases h
end
end Go.Mx
namespace Go.Proofs.YtegepanmkjemjaaGreat
open Go.Proofs.Tryz
open Go.Eng C12
theorem E9:Go.Mx.ug prog 8 TPg=some [false,false,false,false,false,false,false,false,false]:=by kernel_rfl
theorem Gw:isAgg? prog TPg=true:=by kernel_rfl
theorem Dq:Program.eqGuardType prog (Program.depth prog) TPg=false:=by kernel_rfl
theorem uM (r:aB) {K:Bool→Prop} (hk:K true):Af prog TPg r.val r.val K:=by
 refine ⟨true,λw=>?_,hk⟩
 have hc:Go.Mx.qV [false,false,false,false,false,false,false,false,false] r.cells r.cells:=⟨rfl,rfl,rfl,rfl,rfl,rfl,rfl,rfl,rfl,trivial⟩
 have he:Go.Mx.eqvL r.cells r.cells=true:=by simp [aB.cells,Go.Mx.eqvL,Go.Mx.eqv1]
 have hq:=Go.Mx.BL 8 TPg _ E9 10000 (by omega) r.cells r.cells hc w
 unfold Go.Mx.uh at hq
 rw [if_pos Gw,he] at hq
 have hq':(Op.equalIn 10000 TPg (.agg r.cells.toArray) (.agg r.cells.toArray)).run prog w=.ok true w:=hq
 exact ⟨λop x y=>run_eqGuard_agg w op TPg x y _ _ Dq,by rw [aB.val,run_eql_struct,hq'];rfl,by rw [aB.val,run_neq_struct,hq'];rfl⟩
theorem rE {n i:Nat} (h:i<n):(stM n)[i]?=some ⟨(i:Int),1,true⟩:=by simp [stM,h]
theorem xh (w:World) (c:Int):Does 42 [.int .i64 c] w λv w'=>v=.bool (decide (0≤c∧c<6))∧w'=w:=by
 refine does Tryz.func42 ?_
 rw [pn]
 refine aJ (λh=>⟨?_,rfl⟩) (λh=>⟨?_,rfl⟩)
 ·have h:0≤c:=h
  congr 1;simp [h]
 ·have h:¬ 0≤c:=h
  congr 1;simp [h]
theorem x7 (w:World) {i:Nat} (hi:i<6):Does 20 [.int .i64 i] w λv w'=>v=.int .i64 (32+i:Nat)∧w'=w:=by
 refine does Tryz.func20 ?_
 rw [pS]
 refine aE (xh w (i:Int)) ?_
 rintro v u ⟨rfl,rfl⟩
 refine ⟨_,rfl,cU (by simp;omega) ⟨?_,rfl⟩⟩
 rw [w64 (by omega) (by omega)]
 congr 1
theorem D4 (w:World) {i:Nat} (hi:i<6):Does 39 [.int .i64 i] w λv w'=>v=.int .i64 (24+i:Nat)∧w'=w:=by
 refine does Tryz.func39 ?_
 rw [qS]
 refine aE (xh w (i:Int)) ?_
 rintro v u ⟨rfl,rfl⟩
 refine ⟨_,rfl,cU (by simp;omega) ⟨?_,rfl⟩⟩
 rw [w64 (by omega) (by omega)]
 congr 1
structure EqX (X:FabX) (n lines:Nat):Prop where
 len:X.nodes.length=n
 eq:∀ (i:Nat) (x x0:kg),X.nodes[i]?=some x→X.nodes[0]?=some x0→EqN x0.n x.n lines
 long:∀ (i:Nat) (x:kg),X.nodes[i]?=some x→lines * 8≤x.n.words.length
 few:lines≤256
 many:98≤lines
theorem Fa {X:FabX} {i:Nat} {x:kg} (h:X.nodes[i]?=some x):zV X.pure i=x.n:=by
 simp [zV,FabX.pure,List.getD_eq_getElem?_getD,h]
theorem Dr {A:Nat→Prop} {χ:Nat→Tag} {w:World} {fb:Nat} {X:FabX} (h:aY A χ w fb X) {i:Nat} {x:kg} (hx:X.nodes[i]?=some x) {q:Nat} (e:x.n.get q % 256=0):band .u64 (x.n.get q) 255=0:=by
 obtain ⟨h0,h1⟩:=(h.node i x hx).node.wf_get q
 have hb:band .u64 (x.n.get q) ((2 ^ 8 - 1:Nat):Int)=x.n.get q % (2 ^ 8:Nat):=vR h0 h1 8 (by omega)
 have hb:band .u64 (x.n.get q) 255=x.n.get q % 256:=hb
 rw [hb,e]
set_option maxHeartbeats 2000000 in
theorem Fb {A:Nat→Prop} {χ:Nat→Tag} {w:World} {fb:Nat} {X:FabX} (h:aY A χ w fb X) {n lines:Nat} (hq:EqX X n lines) {a:Option Addr} {mc:Nat} (hr:Rd w a (iC (stM n)).flatten) (hn1:n≤5) :
  Does 17 [ptr fb,.slice a n mc,.int .i64 lines] w λv u=>v=.bool true∧New w u:=by
 have hfew:=hq.few
 have h98:=hq.many
 refine does Tryz.func17 ?_
 rw [ptr,qR]
 refine aQ mix (λq env z=>∃ (i:Nat) (jj:List Value),q=n - i∧i≤n∧env=eS ⟨fb,0,none⟩ a n mc lines i jj∧New w z) n ⟨0,_,rfl,by omega,rfl,Keep.refl _ _⟩ ?_
 rintro q env z ⟨i,jj,rfl,hi,rfl,hn⟩
 rw [lp]
 refine aJ (λhlt=>?_) (λhge=>?_)
 rotate_left
 ·rw [mX]
  exact ⟨rfl,hn⟩
 have hlt':i<n:=by omega
 obtain ⟨x,hx⟩:∃ x,X.nodes[i]?=some x:=⟨_,List.getElem?_eq_getElem (by rw [hq.len];exact hlt')⟩
 obtain ⟨x0,hx0⟩:∃ x,X.nodes[0]?=some x:=⟨_,List.getElem?_eq_getElem (by rw [hq.len];omega)⟩
 have e:=hq.eq i x x0 hx hx0
 have e0:=hq.eq 0 x0 x0 hx0 hx0
 have hlong:=hq.long i x hx
 have hlong0:=hq.long 0 x0 hx0
 refine aQ mix (λq env z=>∃ (l:Nat) (jj:List Value),q=lines - l∧96≤l∧l≤lines∧env=eT ⟨fb,0,none⟩ a n mc lines i l jj∧New w z) (lines - 96) ⟨96,_,rfl,by omega,by omega,rfl,hn⟩ ?_
 rintro q env z2 ⟨l,jj2,rfl,hl0,hl,rfl,hn2⟩
 rw [lq]
 refine aJ (λhl1=>?_) (λhl1=>?_)
 ·have hl1:l<lines:=by omega
  refine fR (cells:=aF.cells) aF.len (by omega) (hr.new hn2) (rE (i:=0) (by omega)) rfl (mM n).symm λb o _ hc=>⟨_,hc 0 _ rfl,?_⟩
  refine aE (yF (h.new hn2) hx0 (l:=l) (by omega) (by omega) e0.up) ?_
  rintro v u1 ⟨rfl,hn3⟩
  refine aB.mk_ex (x0.n.page l) ⟨true,rfl,?_⟩
  refine gX (vs:=(x0.n.page l).cells) rfl (aB.single _) λb1 u2 hb1 hz1 hn4=>?_
  have hn24:=(hn2.new hn3).new hn4
  refine fR (cells:=aF.cells) aF.len (by omega) (hr.new hn24) (rE (i:=i) hlt') rfl (mM n).symm λb o _ hc=>⟨_,hc 0 _ rfl,?_⟩
  refine aE (yF (h.new hn24) hx (l:=l) (by omega) (by omega) e.up) ?_
  rintro v u3 ⟨rfl,hn5⟩
  refine aB.mk_ex (x.n.page l) ⟨true,rfl,?_⟩
  refine gX (vs:=(x.n.page l).cells) rfl (aB.single _) λb2 u4 hb2 hz2 hn6=>?_
  have hz14:=New.blk (hn5.new hn6) hz1
  refine cU rfl (cU rfl ?_)
  refine aB.mk_ex (x0.n.page l) ⟨aK hz14 rfl,aB.mk_ex (x.n.page l) ⟨aK hz2 rfl,?_⟩⟩
  rw [←(e.page l hl0 hl1).1]
  refine uM _ (cU rfl ⟨_,hz14.cell (i:=1) rfl,cR (λhh=>absurd (Dr h hx0 (e.page l hl0 hl1).2) hh) λ_=>?_⟩)
  rw [w64 (x:=(l:Int)+1) (by omega) (by omega)]
  exact ⟨lines - (l+1),by omega,l+1,_,rfl,by omega,by omega,rfl,(hn24.new hn5).new hn6⟩
 ·rw [mY]
  refine aQ mix (λq env z=>∃ (c:Nat) (jj:List Value),q=6 - c∧c≤6∧env=eU ⟨fb,0,none⟩ a n mc lines i c jj∧New w z) 6 ⟨0,_,rfl,by omega,rfl,hn2⟩ ?_
  rintro q env z3 ⟨c,jj3,rfl,hc6,rfl,hn3⟩
  rw [lr]
  refine aJ (λhl1=>?_) (λhl1=>?_)
  ·have hl1:c<6:=by omega
   obtain ⟨ec,ed⟩:=e.clock c hl1
   rintro w1 hw1
   have hn4:New w w1:=by rw [hw1];exact hn3.new (aV _)
   clear hw1
   refine ⟨λy=>New w1 y,Keep.refl _ _,kN (cells:=aF.cells) aF.len (by omega) (hr.new hn4) (rE (i:=0) (by omega)) rfl (mM n).symm λb o hc=>⟨_,λu hu=>hc u hu 0 _ rfl,?_⟩⟩
   refine aE (x7 _ hl1) ?_
   rintro v u ⟨rfl,rfl⟩
   refine ⟨_,rfl,Keep.refl _ _,?_⟩
   refine aE (wH (h.new hn4) hx0 (at_:=32+c) (by omega) e0.up) ?_
   rintro v u2 ⟨rfl,hn5⟩
   refine ⟨_,_,rfl,?_⟩
   rintro w2 hw2
   have hn6:New w w2:=by rw [hw2];exact (hn4.new hn5).new (aV _)
   clear hw2
   refine ⟨λy=>New w2 y,Keep.refl _ _,kN (cells:=aF.cells) aF.len (by omega) (hr.new hn6) (rE (i:=i) hlt') rfl (mM n).symm λb o hc=>⟨_,λu hu=>hc u hu 0 _ rfl,?_⟩⟩
   refine aE (x7 _ hl1) ?_
   rintro v u ⟨rfl,rfl⟩
   refine ⟨_,rfl,Keep.refl _ _,?_⟩
   refine aE (wH (h.new hn6) hx (at_:=32+c) (by omega) e.up) ?_
   rintro v u3 ⟨rfl,hn7⟩
   refine ⟨_,_,rfl,?_⟩
   rintro w3 hw3
   have hn8:New w w3:=by rw [hw3];exact (hn6.new hn7).new (aV _)
   clear hw3
   refine ⟨λy=>New w3 y,Keep.refl _ _,kN (cells:=aF.cells) aF.len (by omega) (hr.new hn8) (rE (i:=0) (by omega)) rfl (mM n).symm λb o hc=>⟨_,λu hu=>hc u hu 0 _ rfl,?_⟩⟩
   refine aE (D4 _ hl1) ?_
   rintro v u ⟨rfl,rfl⟩
   refine ⟨_,rfl,Keep.refl _ _,?_⟩
   refine aE (wH (h.new hn8) hx0 (at_:=24+c) (by omega) e0.up) ?_
   rintro v u4 ⟨rfl,hn9⟩
   refine ⟨_,_,rfl,?_⟩
   rintro w4 hw4
   have hn10:New w w4:=by rw [hw4];exact (hn8.new hn9).new (aV _)
   clear hw4
   refine ⟨λy=>New w4 y,Keep.refl _ _,kN (cells:=aF.cells) aF.len (by omega) (hr.new hn10) (rE (i:=i) hlt') rfl (mM n).symm λb o hc=>⟨_,λu hu=>hc u hu 0 _ rfl,?_⟩⟩
   refine aE (D4 _ hl1) ?_
   rintro v u ⟨rfl,rfl⟩
   refine ⟨_,rfl,Keep.refl _ _,?_⟩
   refine aE (wH (h.new hn10) hx (at_:=24+c) (by omega) e.up) ?_
   rintro v u5 ⟨rfl,hn11⟩
   refine ⟨_,_,rfl,cU rfl (cU rfl (cU rfl (cU rfl (cR (λhh=>absurd ec hh) λ_=>cR (λhh=>absurd ed hh) λ_=>?_))))⟩
   rw [w64 (x:=(c:Int)+1) (by omega) (by omega)]
   exact ⟨6 - (c+1),by omega,c+1,_,rfl,by omega,rfl,hn10.new hn11⟩
  ·rw [mZ]
   rw [w64 (x:=(i:Int)+1) (by omega) (by omega)]
   exact ⟨n - (i+1),by omega,i+1,_,rfl,by omega,rfl,hn3⟩
end Go.Proofs.YtegepanmkjemjaaGreat
namespace Go.Proofs.YtegepanmkjemjaaGreat
open Go.Eng IntKind
end Go.Proofs.YtegepanmkjemjaaGreat
namespace Go.Proofs.YtegepanmkjemjaaGreat
open Go.Eng
end Go.Proofs.YtegepanmkjemjaaGreat
namespace Go.Proofs.YtegepanmkjemjaaGreat.C12
open Go.Eng
abbrev TR:=aC
abbrev TTa:TypeId:=49
abbrev TST:TypeId:=61
structure fL (A:Nat→Prop) (w:World) (r:TR) (t:Tk conv):Prop where
 kind:r.Kind=KIND
 client:r.Client=t.client
 over:r.Over=t.over
 bad:r.Bad=t.bad
 got:mS A w r.Got t.got
 gl:r.Got_l=t.got.length
 gc:r.Got_l≤r.Got_c
 job:JAt A w r t.job
 out:OAt A w r t.out
 len:t.got.length≤201
theorem fL.keep {A A':Nat→Prop} {w w':World} {r:TR} {t:Tk conv} (h:fL A w r t) (hk:Keep A w w') (hM:∀ k,k<w.heap.size→A' k→A k):fL A' w' r t:=
 ⟨h.kind,h.client,h.over,h.bad,h.got.keep hk hM,h.gl,h.gc,h.job.keep hk hM,h.out.keep hk hM,h.len⟩
theorem fL.fail {A:Nat→Prop} {w:World} {r:TR} {t:Tk conv} (h:fL A w r t):fL A w { r with Over:=true,Bad:=true } t.fail:=
 ⟨h.kind,h.client,rfl,rfl,h.got,h.gl,h.gc,h.job,h.out,h.len⟩
theorem uN {z:World} {b1 b2:Nat} {r:TR} {cs:List Value} {R:Value→World→Prop} (hb1:Blk z b1 r.cells TTa) (hb2:Blk z b2 cs TTa) (hc:cs.length=25) (hR:∀ w',Keep (λk=>k=b2) z w'→R r.val w') :
  aC.ex λx=>aG z ⟨b1,0,none⟩ 0 x.cells∧wrAt z ⟨b2,0,none⟩ 0 x.cells∧∀ w',w'=puts z ⟨b2,0,none⟩ 0 x.cells→aC.ex λy=>aG w' ⟨b2,0,none⟩ 0 y.cells∧w'=w'∧R y.val w':=by
 refine aC.mk_ex r ⟨aK hb1 rfl,?_⟩
 refine gJ (vs:=r.cells) hb2 (by rw [hc];rfl) (aC.single r) λw' hb' hk'=>?_
 exact aC.mk_ex r ⟨aK hb' rfl,rfl,hR w' hk'⟩
def zX (A:Nat→Prop) (χ:Nat→Tag) (w:World) (fb:Nat) (x:Fab×Tk conv) (v:Value) (w':World):Prop:=
 dD A χ w fb x.1 w' λB=>∃ r:TR,v=r.val∧fL B w' r x.2
theorem Dt {A:Nat→Prop} {χ:Nat→Tag} {w z w':World} {fb b1 b2:Nat} {B:Nat→Prop} {ξ:Nat→Tag} {X:FabX} {r:TR} {t:Tk conv} (h:TW A χ w fb (λk=>k=b1∨k=b2) z B ξ X) (ht:fL (λk=>B k∨k=b1∨k=b2) z r t) (hk:Keep (λk=>k=b2) z w') :
  zX A χ w fb (X.pure,t) r.val w':=
 (h.local hk λ_ e=>.inr e).done ⟨r,rfl,ht.keep (hk.mono λ_ _ e=>.inr (.inr e)) λk _ hb=>.inl hb⟩
def oD (ts:List (TR×Tk conv)):List (List Value):=ts.map λx=>x.1.cells
theorem mC (ts:List (TR×Tk conv)):∀ r ∈ oD ts,r.length=25:=by
 intro r hr
 simp only [oD,List.mem_map] at hr
 obtain ⟨x,_,rfl⟩:=hr
 rfl
theorem tK {ts:List (TR×Tk conv)} {i:Nat} {x:TR×Tk conv} (h:ts[i]?=some x):(oD ts)[i]?=some x.1.cells:=by simp [oD,h]
theorem xi (ts:List (TR×Tk conv)):∀ u ∈ (oD ts).flatten,single u=true:=by
 intro u hu
 obtain ⟨r,hr,hur⟩:=List.mem_flatten.1 hu
 simp only [oD,List.mem_map] at hr
 obtain ⟨x,_,rfl⟩:=hr
 exact aC.single _ u hur
end Go.Proofs.YtegepanmkjemjaaGreat.C12
namespace Go.Proofs.YtegepanmkjemjaaGreat.C12
open Go.Eng
set_option maxRecDepth 20000 in
set_option maxHeartbeats 4000000 in
theorem Gx {A:Nat→Prop} {z:World} {r:TR} {t:Tk conv} (h:fL A z r t) (hlow:∀ k,A k→k<z.heap.size) :
  Does 60 [r.val] z λv z1=>New z z1∧∃ (aa:Option Addr) (ac:Nat) (raws:List aL) (r':TR),v=.tuple #[.slice aa raws.length ac,r'.val]∧Rd z1 aa (eH raws).flatten∧(∀ k,isB aa k→z.heap.size≤k)∧Vs (λk=>k<z.heap.size) z1 raws (conv.next t.job t.got).1∧fL A z1 r' t.told:=by
 refine does Tryz.func60 ?_
 rw [pU]
 rintro b1 u1 hb1 hu1
 obtain ⟨hz1,hn1⟩:=aN hb1 hu1
 have hz1:Blk u1 b1 r.cells TTa:=hz1
 clear hu1
 rintro b2 u2 hb2 hu2
 obtain ⟨hz2,hn2⟩:=aN hb2 hu2
 obtain ⟨cs2,hz2,hcs2⟩:∃ cs,Blk u2 b2 cs TTa∧cs.length=r.cells.length:=⟨_,hz2,rfl⟩
 clear hu2
 have hn12:=hn1.new hn2
 have hs1:=hn1.size
 have hs2:=hn2.size
 have hl1:=hz1.lt
 have hl2:=hz2.lt
 have hz12:=New.blk hn2 hz1
 have hk:=h.kind
 refine ⟨_,hz12.cell (i:=0) rfl,cU (by rw [hk];rfl) (cU (by rw [hk];rfl) (jt (by rw [hk];rfl) ?_))⟩
 refine aH.mk_ex r.Commit ⟨aK hz12 rfl,_,_,_,hz12.cell (i:=15) rfl,?_⟩
 have hk12:Keep A z u2:=Keep.of_new hn12
 have hj:JAtC A u2 r.Commit t.job:=h.job.keep (A':=A) hk12 λ_ _ e=>e
 have hg:=h.got.keep (A':=A) hk12 λ_ _ e=>e
 have hcall:=E0 hj.at_ (λ_=>hj.dat) hg h.gl h.gc
 refine aE hcall ?_
 rintro v u3 ⟨aa,ac,raws,rfl,hn3,hrd,hfr,hvs⟩
 refine ⟨_,_,_,aA.mk_ex ⟨(cH t.job t.got).2.1.1,(cH t.job t.got).2.1.2⟩ ⟨(cH t.job t.got).2.2,rfl,?_⟩⟩
 refine gX (vs:=aA.cells ⟨(cH t.job t.got).2.1.1,(cH t.job t.got).2.1.2⟩) rfl (aA.single _) λb3 u4 hb3 hz4 hn4=>?_
 rintro u5 hu5
 have hn5:New u4 u5:=by rw [hu5];exact aV _
 clear hu5
 have hs3:=hn3.size
 have hs4:=hn4.size
 have hs5:=hn5.size
 have hz45:=New.blk hn5 hz4
 have hn25:=(hn3.new hn4).new hn5
 have hz15:=New.blk hn25 hz12
 have hz25:=New.blk hn25 hz2
 refine ⟨λy=>Blk y b3 (aA.cells ⟨(cH t.job t.got).2.1.1,(cH t.job t.got).2.1.2⟩) TCO,hz45,_,λy hy=>hy.cell (i:=0) rfl,_,λy hy=>hy.cell (i:=1) rfl,?_⟩
 refine vu hz15 (i:=16) rfl λu6 hz6 hk6=>⟨hk6.blk hz45 (by omega),?_⟩
 refine vu hz6 (i:=18) rfl λu7 hz7 hk7=>⟨hk7.blk (hk6.blk hz45 (by omega)) (by omega),?_⟩
 refine vu hz7 (i:=24) rfl λu8 hz8 hk8=>?_
 rintro u9 hu9
 have hn9:New u8 u9:=by rw [hu9];exact aV _
 clear hu9
 have hk58:Keep (λk=>k=b1) u5 u8:=(hk6.trans hk7 λ_ _ e=>e).trans hk8 λ_ _ e=>e
 have hz8:Blk u8 b1 (aC.cells { r with Over:=(cH t.job t.got).2.2,Code:=(cH t.job t.got).2.1.1,Fate:=(cH t.job t.got).2.1.2 }) TTa:=hz8
 have hz9:=New.blk hn9 hz8
 have hz29:Blk u9 b2 cs2 TTa:=New.blk hn9 (hk58.blk hz25 (by omega))
 have hk59:Keep (λk=>k=b1) u5 u9:=hk58.new hn9
 refine ⟨λy=>New u9 y,Keep.refl _ _,aC.mk_ex { r with Over:=(cH t.job t.got).2.2,Code:=(cH t.job t.got).2.1.1,Fate:=(cH t.job t.got).2.1.2 } ⟨λy hy=>aK (New.blk hy hz9) rfl,?_⟩⟩
 refine gJ hz29 (by rw [hcs2];rfl) (aC.single _) λuA hzA hkA=>?_
 refine aC.mk_ex { r with Over:=(cH t.job t.got).2.2,Code:=(cH t.job t.got).2.1.1,Fate:=(cH t.job t.got).2.1.2 } ⟨aK hzA rfl,rfl,?_⟩
 have hk5A:Keep (λk=>k=b1∨k=b2) u5 uA:=(hk59.mono λk _ e=>.inl e).trans (hkA.mono λk _ e=>.inr e) λ_ _ e=>e
 have hnA:New z uA:=(hn12.new hn25).trans hk5A λk hlt e=>by omega
 have hk3A:Keep (λk=>k=b1∨k=b2) u3 uA:=(Keep.of_new (hn4.new hn5)).trans hk5A λ_ _ e=>e
 refine ⟨hnA,aa,ac,raws,_,rfl,hrd.keep hk3A (qg hrd λk hk e=>by have:=hfr k hk;omega),λk hk=>by have:=hfr k hk;omega,?_,?_⟩
 ·exact hvs.keep (hk3A.mono λk _ e=>by show k<u2.heap.size;omega) λk _ e=>by show k<u2.heap.size;omega
 ·have hT:=h.keep (A':=A) (Keep.of_new hnA) λ_ _ e=>e
  exact ⟨hT.kind,hT.client,rfl,hT.bad,hT.got,hT.gl,hT.gc,hT.job,⟨rfl,rfl⟩,hT.len⟩
end Go.Proofs.YtegepanmkjemjaaGreat.C12
namespace Go.Proofs.YtegepanmkjemjaaGreat.C12
open Go.Proofs.Tryz
open Go.Eng
def yS (p0 b1 b2:Nat) (z:World) (R:Value→World→Prop):Prop:=
 ∃ (g:Option Addr) (gl gc:Nat),z.cell? ⟨b1,15,none⟩=some (.slice g gl gc)∧(bif (decide ((gl:Int)>200)) then
  ((∃ u,z.cell? ⟨b1,16,none⟩=some u)∧z.frozen? ⟨b1,16,none⟩=false∧∀ z1,z1=z.setCell ⟨b1,16,none⟩ (.bool true)→(∃ u,z1.cell? ⟨b1,17,none⟩=some u)∧z1.frozen? ⟨b1,17,none⟩=false∧∀ z2,z2=z1.setCell ⟨b1,17,none⟩ (.bool true)→
   aC.ex λx=>aG z2 ⟨b1,0,none⟩ 0 x.cells∧wrAt z2 ⟨b2,0,none⟩ 0 x.cells∧∀ w',w'=puts z2 ⟨b2,0,none⟩ 0 x.cells→aC.ex λy=>aG w' ⟨b2,0,none⟩ 0 y.cells∧w'=w'∧R y.val w')
  else (aC.ex λr=>aG z ⟨b1,0,none⟩ 0 r.cells∧Calls prog 60 #[r.val] z λe z3=>∃ (a:Option Addr) (al ac:Nat),aC.ex λr'=>e=.returned (.tuple #[.slice a al ac,r'.val])∧wrAt z3 ⟨b1,0,none⟩ 0 r'.cells∧∀ z4,z4=puts z3 ⟨b1,0,none⟩ 0 r'.cells→
   ∃ ov:Bool,z4.cell? ⟨b1,16,none⟩=some (.bool ov)∧(bif (!ov) then (∃ cl:Int,z4.cell? ⟨b1,1,none⟩=some (.int .i64 cl)∧Calls prog 61 #[.pointer (some ⟨p0,0,none⟩),.int .i64 cl,.slice a al ac] z4 λe z5=>∃ ec:Int,e=.returned (.int .i64 ec)∧(bif (ec != 0) then
     ((∃ u,z5.cell? ⟨b1,16,none⟩=some u)∧z5.frozen? ⟨b1,16,none⟩=false∧∀ z6,z6=z5.setCell ⟨b1,16,none⟩ (.bool true)→(∃ u,z6.cell? ⟨b1,17,none⟩=some u)∧z6.frozen? ⟨b1,17,none⟩=false∧∀ z7,z7=z6.setCell ⟨b1,17,none⟩ (.bool true)→
      aC.ex λx=>aG z7 ⟨b1,0,none⟩ 0 x.cells∧wrAt z7 ⟨b2,0,none⟩ 0 x.cells∧∀ w',w'=puts z7 ⟨b2,0,none⟩ 0 x.cells→aC.ex λy=>aG w' ⟨b2,0,none⟩ 0 y.cells∧w'=w'∧R y.val w')
     else (aC.ex λx=>aG z5 ⟨b1,0,none⟩ 0 x.cells∧wrAt z5 ⟨b2,0,none⟩ 0 x.cells∧∀ w',w'=puts z5 ⟨b2,0,none⟩ 0 x.cells→aC.ex λy=>aG w' ⟨b2,0,none⟩ 0 y.cells∧w'=w'∧R y.val w')))
    else (aC.ex λx=>aG z4 ⟨b1,0,none⟩ 0 x.cells∧wrAt z4 ⟨b2,0,none⟩ 0 x.cells∧∀ w',w'=puts z4 ⟨b2,0,none⟩ 0 x.cells→aC.ex λy=>aG w' ⟨b2,0,none⟩ 0 y.cells∧w'=w'∧R y.val w'))))
theorem D5 {A:Nat→Prop} {χ:Nat→Tag} {w z:World} {fb b1 b2:Nat} {B:Nat→Prop} {ξ:Nat→Tag} {X:FabX} {r:TR} {t:Tk conv} (h:TW A χ w fb (λk=>k=b1∨k=b2) z B ξ X) (hne:b1≠b2) (hb1:Blk z b1 r.cells TTa) {cs:List Value} (hb2:Blk z b2 cs TTa) (hcs:cs.length=25) (ht:fL (λk=>B k∨k=b1∨k=b2) z r t) :
  (∃ u,z.cell? ⟨b1,16,none⟩=some u)∧z.frozen? ⟨b1,16,none⟩=false∧∀ z1,z1=z.setCell ⟨b1,16,none⟩ (.bool true)→(∃ u,z1.cell? ⟨b1,17,none⟩=some u)∧z1.frozen? ⟨b1,17,none⟩=false∧∀ z2,z2=z1.setCell ⟨b1,17,none⟩ (.bool true)→
   aC.ex λx=>aG z2 ⟨b1,0,none⟩ 0 x.cells∧wrAt z2 ⟨b2,0,none⟩ 0 x.cells∧∀ w',w'=puts z2 ⟨b2,0,none⟩ 0 x.cells→aC.ex λy=>aG w' ⟨b2,0,none⟩ 0 y.cells∧w'=w'∧zX A χ w fb (X.pure,t.fail) y.val w':=by
 refine ⟨⟨_,hb1.cell rfl⟩,hb1.frozen,?_⟩
 rintro z1 hz1
 have hk1:Keep (λk=>k=b1) z z1:=by rw [hz1];exact aR _ _ _ _
 have hb11:=hb1.setCell (i:=16) (.bool true)
 rw [←hz1] at hb11
 clear hz1
 refine ⟨⟨_,hb11.cell rfl⟩,hb11.frozen,?_⟩
 rintro z2 hz2
 have hk2:Keep (λk=>k=b1) z z2:=by rw [hz2];exact hk1.setCell (.inl rfl) _
 have hb12:=hb11.setCell (i:=17) (.bool true)
 rw [←hz2] at hb12
 clear hz2
 have hb12:Blk z2 b1 ({ r with Over:=true,Bad:=true }:TR).cells TTa:=hb12
 refine uN hb12 (hk2.blk hb2 λe=>hne e.symm) hcs λw' hk'=>?_
 exact Dt (h.local hk2 λ_ e=>.inl e) ((ht.keep (hk2.mono λ_ _ e=>.inr (.inl e)) λ_ _ hb=>hb).fail) hk'
set_option maxHeartbeats 2000000 in
theorem D6 {A:Nat→Prop} {χ:Nat→Tag} {w z:World} {fb b1 b2:Nat} {B:Nat→Prop} {ξ:Nat→Tag} {X:FabX} {r:TR} {t:Tk conv} (h:TW A χ w fb (λk=>k=b1∨k=b2) z B ξ X) (hok:Good X.pure) (hne:b1≠b2)
  (hb1:Blk z b1 r.cells TTa) {cs:List Value} (hb2:Blk z b2 cs TTa) (hcs:cs.length=25) (ht:fL (λk=>B k∨k=b1∨k=b2) z r t) :
  yS fb b1 b2 z (zX A χ w fb (sn X.pure t)):=by
 unfold yS sn
 have hgl:=ht.gl
 refine ⟨_,_,_,hb1.cell rfl,aJ (λhc=>?_) (λhc=>?_)⟩
 ·rw [if_pos (by omega)]
  exact D5 h hne hb1 hb2 hcs ht
 ·rw [if_neg (by omega)]
  refine aC.mk_ex r ⟨aK hb1 rfl,?_⟩
  refine aE (Gx ht (λk hk=>h.fab.low k hk)) ?_
  rintro v z1 ⟨hn1,aa,ac,raws,r',rfl,hrd,hfr,hvs,ht'⟩
  refine ⟨_,_,_,aC.mk_ex r' ⟨rfl,?_⟩⟩
  have hb1l:=hb1.lt
  have hb2l:=hb2.lt
  refine gJ (vs:=r'.cells) (New.blk hn1 hb1) rfl (aC.single r') λz2 hb22 hk2=>?_
  have hkz2:Keep (λk=>k=b1) z z2:=(Keep.of_new hn1).trans hk2 λ_ _ e=>e
  have h2:=(h.new hn1).local hk2 λ_ e=>.inl e
  have ht2:=ht'.keep (A':=λk=>B k∨k=b1∨k=b2) (hk2.mono λ_ _ e=>.inr (.inl e)) λ_ _ hb=>hb
  have hb2z:Blk z2 b2 cs TTa:=hkz2.blk hb2 λe=>hne e.symm
  have hrd2:Rd z2 aa (eH raws).flatten:=hrd.keep hk2 (qg hrd λk hk e=>by have:=hfr k hk;omega)
  refine ⟨_,hb22.cell rfl,dN (λho=>?_) (λho=>?_)⟩
  ·have ho':(conv.next t.job t.got).2.2=false:=by rw [←ho];exact ht'.over.symm
   rw [if_neg (by rw [ho'];simp)]
   refine ⟨_,hb22.cell rfl,?_⟩
   have hoff:((eH raws).flatten=[])∨Off (λk=>B k∨k=b1∨k=b2) aa:=qg hrd2 λk hk e=>by
    have h3:=hfr k hk
    have h4:=h.fab.low k e
    omega
   have hvs2:Vs (λk=>B k∨k=b1∨k=b2) z2 raws (conv.next t.job t.got).1:=hvs.keep (hk2.mono λk _ e=>by show k<z.heap.size;omega) λk _ hb=>h.fab.low k hb
   have hcl:r'.Client=t.client:=ht'.client
   rw [hcl]
   refine aE (FP h2.fab hok.ok t.client (lcap:=ac) hrd2 hoff hvs2) ?_
   rintro v z3 ⟨rfl,hp⟩
   obtain ⟨B',ξ',X',h3,hX3,_,hk3,hM3,hL3⟩:=h2.op hp
   have hb13:Blk z3 b1 r'.cells TTa:=(hL3 b1 (.inl rfl)).trans hb22
   have hb23:Blk z3 b2 cs TTa:=(hL3 b2 (.inr rfl)).trans hb2z
   have ht3:=ht2.keep (A':=λk=>B' k∨k=b1∨k=b2) hk3 hM3
   refine ⟨_,rfl,cR (λhc2=>?_) (λhc2=>?_)⟩
   ·rw [if_pos hc2,←hX3]
    exact D5 h3 hne hb13 hb23 hcs ht3
   ·rw [if_neg (λe=>e hc2)]
    refine uN hb13 hb23 hcs λw' hk'=>?_
    rw [←hX3]
    exact Dt h3 ht3 hk'
  ·have ho':(conv.next t.job t.got).2.2=true:=by rw [←ho];exact ht'.over.symm
   rw [if_pos ho']
   refine uN hb22 hb2z hcs λw' hk'=>?_
   exact Dt h2 ht2 hk'
set_option maxHeartbeats 2000000 in
theorem D7 {A:Nat→Prop} {χ:Nat→Tag} {w:World} {fb:Nat} {X:FabX} (h:aY A χ w fb X) (hok:Good X.pure) {r:TR} {t:Tk conv} (ht:fL A w r t) (hsh:uf t) :
  Does 44 [ptr fb,r.val] w (zX A χ w fb (turn X.pure t)):=by
 refine does Tryz.func44 ?_
 rw [ptr,pT]
 rintro b1 w1 hb1 hw1 b2 w2 hb2 hw2
 obtain ⟨hz1,hn1⟩:=aN hb1 hw1
 obtain ⟨hz2,hn2⟩:=aN hb2 hw2
 have hz12:Blk w2 b1 r.cells TTa:=New.blk hn2 hz1
 have hs1:=hz1.lt
 have hs12:=hn1.size
 have hs2:=hz2.lt
 have hs22:=hn2.size
 clear hw1 hw2 hz1
 have hn02:=hn1.new hn2
 have hne:b1≠b2:=by omega
 have hT:TW A χ w fb (λk=>k=b1∨k=b2) w2 A χ X:=TW.start h hn02 λk hk=>by omega
 have ht2:fL (λk=>A k∨k=b1∨k=b2) w2 r t:=ht.keep (Keep.of_new hn02) λk hlt hc=>by
  rcases hc with hc | hc
  ·exact hc
  ·omega
 have hsame:∀ w',Keep (λk=>k=b2) w2 w'→zX A χ w fb (X.pure,t) r.val w':=λw' hk'=>Dt hT ht2 hk'
 unfold turn
 have hcl:r.Client=t.client:=ht.client
 refine ⟨_,hz12.cell rfl,?_⟩
 rw [ht.over]
 cases hov:t.over with
 |true=>
  refine jt rfl ?_
  rw [if_pos (.inl rfl)]
  exact uN hz12 hz2 rfl hsame
 |false=>
  refine cU rfl ?_
  refine ⟨_,hz12.cell rfl,?_⟩
  rw [hcl]
  refine aE (AM hT.fab _) ?_
  rintro v w4 ⟨rfl,rfl⟩
  refine ⟨_,rfl,dN (λha=>?_) (λha=>?_)⟩
  ·rw [if_pos (.inr (.inl ha))]
   exact uN hz12 hz2 rfl hsame
  refine ⟨_,hz12.cell rfl,?_⟩
  rw [hcl]
  refine aE (AN hT.fab _) ?_
  rintro v w6 ⟨rfl,rfl⟩
  refine ⟨_,rfl,aJ (λhw=>?_) (λhw=>?_)⟩
  ·rw [if_pos (.inr (.inr (by omega)))]
   exact uN hz12 hz2 rfl hsame
  rw [if_neg (by rw [ha];simp;omega)]
  refine ⟨_,hz12.cell rfl,?_⟩
  rw [hcl]
  refine aE (FN hT.fab _) ?_
  rintro v w8 hp
  obtain ⟨B',ξ',X',h3,hX3,hK3,hk3,hM3,hL3⟩:=hT.op hp
  have hb13:Blk w8 b1 r.cells TTa:=(hL3 b1 (.inl rfl)).trans hz12
  have hb23:=(hL3 b2 (.inr rfl)).trans hz2
  have ht3:=ht2.keep (A':=λk=>B' k∨k=b1∨k=b2) hk3 hM3
  have hok3:Good X'.pure:=by rw [hX3];exact hok.take _
  have htl:∀ ds,(X.pure.take t.client).1=some ds→ds.length≤1024:=λds=>C6 hok
  have hlen:=hsh hov
  rw [←hX3]
  generalize (X.pure.take t.client).1=od at hK3 htl ⊢
  cases od with
  |none=>
   have hK3:v=.tuple #[.slice none 0 0,.bool false]:=hK3
   subst hK3
   refine ⟨_,_,_,_,rfl,cU rfl ?_⟩
   exact D6 h3 hok3 hne hb13 hb23 rfl ht3
  |some ds=>
   obtain ⟨b,raw,rfl,hbb,hds,hnb⟩:=hK3
   refine ⟨_,_,_,_,rfl,jt rfl ?_⟩
   refine ⟨_,_,_,hb13.cell rfl,?_⟩
   rw [ht3.gl]
   refine C7 ht3.got (by omega) hbb hds hnb (htl ds rfl) h3.fab.low (by rw [hds.1]) ?_
   intro b3 ap cap z hb3 hgz hcap hnz
   have hb14:=New.blk hnz hb13
   refine ⟨⟨_,hb14.cell rfl⟩,hb14.frozen,?_⟩
   rintro w12 hw12
   have hk12:Keep (λk=>k=b1) z w12:=by rw [hw12];exact aR _ _ _ _
   have hb15:=hb14.setCell (i:=15) (.slice ap (t.got.length+1) cap)
   rw [←hw12] at hb15
   clear hw12
   have hb15:Blk w12 b1 ({ r with Got:=ap,Got_l:=t.got.length+1,Got_c:=cap }:TR).cells TTa:=hb15
   refine D6 ((h3.new hnz).local hk12 λ_ e=>.inl e) hok3 hne hb15 (hk12.blk (New.blk hnz hb23) λe=>hne e.symm) rfl ?_
   have hkz:Keep (λk=>B' k∨k=b1∨k=b2) w8 w12:=(Keep.of_new hnz).trans hk12 λ_ _ e=>.inr (.inl e)
   have ht4:=ht3.keep (A':=λk=>B' k∨k=b1∨k=b2) hkz λ_ _ hb=>hb
   have hgl:(t.got++[ds]).length=t.got.length+1:=by simp
   exact ⟨ht4.kind,ht4.client,ht4.over,ht4.bad,hgz.keep (hk12.mono λ_ _ e=>.inr (.inl e)) λ_ _ hb=>hb,hgl.symm,hcap,ht4.job,ht4.out,by show (t.got++[ds]).length≤201;omega⟩
end Go.Proofs.YtegepanmkjemjaaGreat.C12
