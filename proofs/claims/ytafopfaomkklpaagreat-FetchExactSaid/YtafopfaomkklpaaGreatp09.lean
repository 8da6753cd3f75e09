/- A part of the proof. -/
import Derived.Test.YtafopfaomkklpaaGreatp01
import Derived.Laws.StructEq
import Derived.Test.YtafopfaomkklpaaGreatp08
import Derived.Test.YtafopfaomkklpaaGreatProg
import Derived.Test.YtafopfaomkklpaaGreatp03
set_option linter.unusedVariables false
namespace Go.Mx
open Go.Eng
def yN (sz:TypeId→Nat) (f:TypeId→Option (List Bool)):List Field→Nat→Option (List Bool)
 | [],off=>some []
 |fd::fs,off=>match f fd.type with
  |some ks=>match fd.name != "_" && (Nat.beq fd.offset off && Nat.beq (sz fd.type) ks.length) with
   |true=>match yN sz f fs (off+ks.length) with
    |some r=>some (ks++r)
    |none=>none
   |false=>none
  |none=>none
def tO (P:Program):Nat→TypeId→Option (List Bool)
 | 0,_=>none
 |d+1,t=>match P.underlying t with
  |some (.int _)=>some [false]
  |some .bool=>some [true]
  |some (.struct fs)=>match P.stoodInHeld t with
   |true=>none
   |false=>yN (xy P) (tO P d) fs.toList 0
  |some (.array len e)=>match tO P d e with
   |some ks=>match Nat.beq (xy P e) ks.length with
    |true=>some (List.replicate len ks).flatten
    |false=>none
   |none=>none
  | _=>none
def cmp1:Bool→Value→Value→Prop
 |false,.int k _,.int j _=>k=j
 |true,.bool _,.bool _=>True
 | _,_,_=>False
def re:List Bool→List Value→List Value→Prop
 | [],[],[]=>True
 |k::ks,x::xs,y::ys=>cmp1 k x y∧re ks xs ys
 | _,_,_=>False
def eqv1:Value→Value→Bool
 | .int _ a,.int _ b=>a == b
 | .bool a,.bool b=>a == b
 | _,_=>true
def eqvL:List Value→List Value→Bool
 |x::xs,y::ys=>eqv1 x y && eqvL xs ys
 | _,_=>true
theorem re.len:∀ {ks:List Bool} {xs ys:List Value},re ks xs ys→xs.length=ks.length∧ys.length=ks.length
 | [],[],[],_=>⟨rfl,rfl⟩
 | _::_,_::_,_::_,⟨_,h⟩=>by simp [re.len h]
theorem re.split:∀ {ks ls:List Bool} {xs ys:List Value},re (ks++ls) xs ys→re ks (xs.take ks.length) (ys.take ks.length)∧re ls (xs.drop ks.length) (ys.drop ks.length)∧
  eqvL xs ys=(eqvL (xs.take ks.length) (ys.take ks.length) && eqvL (xs.drop ks.length) (ys.drop ks.length))
 | [],ls,xs,ys,h=>⟨trivial,h,rfl⟩
 |k::ks,ls,x::xs,y::ys,⟨a,h⟩=>by
  obtain ⟨h1,h2,h3⟩:=re.split h
  refine ⟨⟨a,h1⟩,h2,?_⟩
  show (eqv1 x y && eqvL xs ys)=((eqv1 x y && eqvL (xs.take ks.length) (ys.take ks.length)) && eqvL (xs.drop ks.length) (ys.drop ks.length))
  rw [h3,Bool.and_assoc]
theorem Ay {k:Bool}:∀ {xs ys:List Value},re [k] xs ys→∃ x y,xs=[x]∧ys=[y]∧cmp1 k x y
 | [],[],h=>h.elim
 | [],_::_,h=>h.elim
 | _::_,[],h=>h.elim
 | [x],[y],h=>⟨x,y,rfl,rfl,h.1⟩
 | _::_::_,[_],h=>h.2.elim
 | [_],_::_::_,h=>h.2.elim
 | _::_::_,_::_::_,h=>h.2.elim
section
variable {P:Program}
def tP (P:Program) (t:TypeId) (xs:List Value):Value:=if isAgg? P t=true then .agg xs.toArray else xs.headD undef
theorem yO {t:TypeId} {i:TypeInfo} {dsc:TypeDesc} (hi:P.info? t=some i) (hd:P.underlying t=some dsc) {cs:List Value} {off n:Nat} (hn:i.size=n) (hl:off+n≤cs.length) (h1:isAgg? P t=false→n=1) (w:World) :
  (part t cs.toArray off).run P w=.ok (tP P t ((cs.drop off).take n)) w:=by
 unfold part tP
 rw [Sem.run_bind,gF hd]
 simp only [Result.andThen_ok]
 split
 ·simp only [Sem.run_bind,Eng.run_sizeOf hi,Result.andThen_ok,Sem.run_pure,hn]
  congr 2
  apply Array.ext'
  simp [List.extract]
 ·rename_i ha
  have hn1:=h1 (by simpa using ha)
  subst hn1
  have hlt:off<cs.length:=by omega
  have hx:(cs.drop off).take 1=[cs[off]]:=by
   rw [List.drop_eq_getElem_cons hlt]
   rfl
  have hg:cs.toArray[off]?=some cs[off]:=by simp [hlt]
  rw [hx]
  simp only [hg]
  rfl
theorem wx {d:Nat} {t:TypeId} {n:List Bool} (h:tO P d t=some n):∃ i dsc,P.info? t=some i∧P.underlying t=some dsc:=by
 cases d with
 |zero=>cases h
 |succ d=>
  unfold tO at h
  cases hu:P.underlying t with
  |none=>rw [hu] at h;cases h
  |some dsc=>
   cases hi:P.info? t with
   |some i=>exact ⟨i,dsc,rfl,rfl⟩
   |none=>simp [Program.underlying,hi] at hu
theorem tQ {d:Nat} {t:TypeId} {n:List Bool} (h:tO P d t=some n) (ha:isAgg? P t=false):n.length=1:=by
 cases d with
 |zero=>cases h
 |succ d=>
  unfold tO at h
  unfold isAgg? at ha
  split at h
  ·cases h;rfl
  ·cases h;rfl
  ·rename_i hu;rw [hu] at ha;cases ha
  ·rename_i hu;rw [hu] at ha;cases ha
  ·cases h
def EqOk (P:Program) (D:Nat) (t:TypeId) (ks:List Bool):Prop:=∀ xs ys:List Value,re ks xs ys→∀ w,(Op.equalIn D t (tP P t xs) (tP P t ys)).run P w=.ok (eqvL xs ys) w
theorem Az {t:TypeId} {ks:List Bool} {D off:Nat} {xs ys:List Value} (hE:EqOk P D t ks) {i:TypeInfo} {dsc:TypeDesc} (hi:P.info? t=some i) (hd:P.underlying t=some dsc) (hn:i.size=ks.length) (h1:isAgg? P t=false→ks.length=1)
  (hc:re ks ((xs.drop off).take ks.length) ((ys.drop off).take ks.length)) (w:World) {α:Type} (K:Bool→Sem α) :
  ((do K (← Op.equalIn D t (← part t xs.toArray off) (← part t ys.toArray off))):Sem α).run P w=(K (eqvL ((xs.drop off).take ks.length) ((ys.drop off).take ks.length))).run P w:=by
 obtain ⟨l1,l2⟩:=hc.len
 rw [List.length_take,List.length_drop] at l1 l2
 cases hk:ks.length with
 |zero=>
  have:i.size=0:=by omega
  cases ha:isAgg? P t with
  |false=>have:=h1 ha;omega
  |true=>
   have run0:∀ cs:List Value,(part t cs.toArray off).run P w=.ok (tP P t []) w:=by
    intro cs
    unfold part tP
    rw [Sem.run_bind,gF hd,ha]
    simp only [Result.andThen_ok,if_true,Sem.run_bind,Eng.run_sizeOf hi,Sem.run_pure,this]
    congr 2
    apply Array.ext'
    simp [List.extract]
   rw [hk] at hc
   simp only [Sem.run_bind,run0,Result.andThen_ok]
   rw [hE [] [] hc]
   rfl
 |succ n=>
  rw [←hk]
  simp only [Sem.run_bind,yO (cs:=xs) (off:=off) hi hd hn (by omega) h1 w,yO (cs:=ys) (off:=off) hi hd hn (by omega) h1 w,Result.andThen_ok]
  rw [hE _ _ hc]
  rfl
theorem wy {d D:Nat} (hE:∀ t ks,tO P d t=some ks→EqOk P D t ks) {xs ys:List Value}:∀ (fs:List Field) (off:Nat) (ks:List Bool),yN (xy P) (tO P d) fs off=some ks→re ks (xs.drop off) (ys.drop off)→
  ∀ w,(Op.eqFields D xs.toArray ys.toArray fs).run P w=.ok (eqvL (xs.drop off) (ys.drop off)) w
 | [],off,ks,h,hc=>by
  cases h
  intro w
  have h0:=hc.len
  rw [List.eq_nil_of_length_eq_zero h0.1]
  simp [Op.eqFields,eqvL]
 |fd::fs,off,ks,h,hc=>by
  unfold yN at h
  split at h
  rotate_left
  ·cases h
  rename_i ks1 hm
  split at h
  rotate_left
  ·cases h
  rename_i hb
  split at h
  rotate_left
  ·cases h
  rename_i ks2 hr
  cases h
  simp only [Bool.and_eq_true,bne_iff_ne,ne_eq] at hb
  obtain ⟨hnm,ho,hs⟩:=hb
  have ho:fd.offset=off:=Nat.eq_of_beq_eq_true ho
  have hs:xy P fd.type=ks1.length:=Nat.eq_of_beq_eq_true hs
  obtain ⟨c1,c2,c3⟩:=hc.split
  rw [List.drop_drop,List.drop_drop] at c2 c3
  have ih:=wy hE fs (off+ks1.length) ks2 hr c2
  intro w
  obtain ⟨i,dsc,hi,hd⟩:=wx hm
  have hsz:i.size=ks1.length:=by unfold xy at hs;rw [hi] at hs;exact hs
  unfold Op.eqFields
  rw [if_pos (by simpa using hnm),ho]
  have:=Az (K:=λr=>if (!r)=true then pure false else Op.eqFields D xs.toArray ys.toArray fs) (hE _ _ hm) hi hd hsz (tQ hm) c1 w
  refine Eq.trans this ?_
  rw [c3]
  cases hq:eqvL ((xs.drop off).take ks1.length) ((ys.drop off).take ks1.length) with
  |false=>rfl
  |true=>
   simp only [Bool.not_true,Bool.false_eq_true,if_false,Bool.true_and]
   exact ih w
theorem yP {D:Nat} {e:TypeId} {ks:List Bool} (hE:EqOk P D e ks) {i:TypeInfo} {dsc:TypeDesc} (hi:P.info? e=some i) (hd:P.underlying e=some dsc) (hn:i.size=ks.length) (h1:isAgg? P e=false→ks.length=1) {xs ys:List Value} (w:World) :
  ∀ (l:List Nat) (a:Nat),l=List.range' a l.length→re (List.replicate l.length ks).flatten (xs.drop (a * ks.length)) (ys.drop (a * ks.length))→
   (forIn l ((none,()):Option Bool×Unit) (λi _=>do
    let r ← Op.equalIn D e (← part e xs.toArray (i * ks.length)) (← part e ys.toArray (i * ks.length))
    if (!r)=true then pure (ForInStep.done (some false,())) else pure (ForInStep.yield (none,()))):Sem (Option Bool×Unit)).run P w=.ok ((if eqvL (xs.drop (a * ks.length)) (ys.drop (a * ks.length))=true then none else some false),()) w
 | [],a,_,hc=>by
  have h0:=hc.len
  rw [List.eq_nil_of_length_eq_zero h0.1]
  simp [eqvL]
 |j::l,a,hr,hc=>by
  rw [List.length_cons,List.range'_succ] at hr
  simp only [List.cons.injEq] at hr
  obtain ⟨rfl,hr⟩:=hr
  rw [List.length_cons,List.replicate_succ,List.flatten_cons] at hc
  obtain ⟨c1,c2,c3⟩:=hc.split
  rw [List.drop_drop,List.drop_drop,←Nat.succ_mul] at c2 c3
  rw [List.forIn_cons,Sem.run_bind]
  have:=Az (K:=λr=>if (!r)=true then (pure (ForInStep.done (some false,())):Sem (ForInStep (Option Bool×Unit))) else pure (ForInStep.yield (none,()))) hE hi hd hn h1 c1 w
  rw [this,c3]
  have ih:=yP hE hi hd hn h1 w l (j+1) hr c2
  cases hq:eqvL ((xs.drop (j * ks.length)).take ks.length) ((ys.drop (j * ks.length)).take ks.length) with
  |false=>rfl
  |true=>
   simp only [Bool.not_true,Bool.false_eq_true,if_false,Bool.true_and]
   exact ih
theorem xP:∀ (d:Nat) (t:TypeId) (ks:List Bool),tO P d t=some ks→∀ D,d≤D→EqOk P D t ks
 | 0,_,_,h=>by cases h
 |d+1,t,ks,h=>by
  intro D hD xs ys hc w
  obtain ⟨D,rfl⟩:∃ D',D=D'+1:=⟨D - 1,by omega⟩
  have hD':d≤D:=by omega
  unfold tO at h
  split at h
  ·rename_i k hu
   cases h
   have ha:isAgg? P t=false:=by unfold isAgg?;rw [hu]
   obtain ⟨x,y,rfl,rfl,hxy⟩:=Ay hc
   unfold tP
   rw [ha]
   cases x<;>cases y<;>first | exact hxy.elim | skip
   have hk:_=_:=hxy
   subst hk
   refine (run_equalIn_int w D t _ k _ _ hu).trans ?_
   simp [eqvL,eqv1]
  ·rename_i hu
   cases h
   have ha:isAgg? P t=false:=by unfold isAgg?;rw [hu]
   obtain ⟨x,y,rfl,rfl,hxy⟩:=Ay hc
   unfold tP
   rw [ha]
   cases x<;>cases y<;>first | exact hxy.elim | skip
   refine (run_equalIn_bool' w D t _ _ hu).trans ?_
   simp [eqvL,eqv1]
  ·rename_i fs hu
   split at h
   ·cases h
   rename_i hst
   have ha:isAgg? P t=true:=by unfold isAgg?;rw [hu]
   have hf:P.fieldsOf t=fs:=by unfold Program.fieldsOf;rw [hu]
   have:=wy (λt ks h=>xP d t ks h D hD') fs.toList 0 ks h hc w
   unfold tP
   rw [if_pos ha,if_pos ha,run_equalIn_struct w D t _ _ (by rw [hf];exact hu) hst,hf]
   exact this
  ·rename_i len e hu
   split at h
   rotate_left
   ·cases h
   rename_i ks1 hm
   split at h
   rotate_left
   ·cases h
   rename_i hs
   cases h
   have hs:xy P e=ks1.length:=Nat.eq_of_beq_eq_true hs
   obtain ⟨i,dsc,hi,hd⟩:=wx hm
   have hsz:i.size=ks1.length:=by unfold xy at hs;rw [hi] at hs;exact hs
   have ha:isAgg? P t=true:=by unfold isAgg?;rw [hu]
   have:=yP (xP d e ks1 hm D hD') hi hd hsz (tQ hm) (xs:=xs) (ys:=ys) w (List.range' 0 len) 0 (by simp) (by simpa using hc)
   unfold tP
   rw [if_pos ha,if_pos ha]
   simp only [Op.equalIn,Sem.run_bind,run_underlying hu,Result.andThen_ok,Eng.run_sizeOf hi,hsz]
   simp only [Nat.zero_mul,List.drop_zero] at this
   rw [Std.Legacy.Range.forIn_eq_forIn_range']
   simp only [Std.Legacy.Range.size,Nat.sub_zero,Nat.add_one_sub_one,Nat.div_one]
   rw [this]
   cases eqvL xs ys<;>rfl
  ·cases h
end
end Go.Mx
namespace Go.Proofs.YtafopfaomkklpaaGreat
open Go.Eng
end Go.Proofs.YtafopfaomkklpaaGreat
namespace Go.Proofs.YtafopfaomkklpaaGreat
open Go.Proofs.Tryz
open Go.Eng IntKind
variable (w:World) (R:Value→World→Prop)
theorem qI (p0:Int):fnW prog f66 [(.int .i64 p0)] R w=((bif (decide ((p0:Int)<96)) then (R (.int .i64 (-1)) w) else ((bif (decide ((p0:Int)≥256)) then (R (.int .i64 (-1)) w) else (R (.int .i64 (i64.wrap (p0 * 8))) w))))):=by kernel_rfl
def eg (s1:Int) (s5:Option Addr) (a b:Nat) (s8:Int) (j:LV):LV:=jq j 0 1 (.int .i64 s1::jq j 1 3 (.slice s5 a b::jq j 4 2 (.int .i64 s8::jq j 6 36 [])))
def iz (s1:Int) (s5:Option Addr) (a b:Nat) (j:LV):LV:=jq j 0 1 (.int .i64 s1::jq j 1 3 (.slice s5 a b::jq j 4 39 []))
def eh (s1:Int) (s5:Option Addr) (a b:Nat) (s9:Int) (j:LV):LV:=jq j 0 1 (.int .i64 s1::jq j 1 3 (.slice s5 a b::jq j 4 3 (.int .i64 s9::jq j 7 35 [])))
def iA (s5:Option Addr) (a b:Nat) (j:LV):LV:=jq j 0 5 (.slice s5 a b::jq j 5 39 [])
theorem oM (p0 p1:Int):fnW prog f72 [.int .i64 p0,.int .i64 p1] R w=(mk3 (i64.wrap (p1 * 8)) (i64.wrap (p1 * 8)) 8 (.cells (reps (Int.toNat (i64.wrap (p1 * 8))) [.int .u64 0]).toArray 32) w λb1 w1=>idxS (some ⟨b1,0,none⟩) (Int.toNat (i64.wrap (p1 * 8))) 0 1 λad=>(∃ u,w1.cell? ad=some u)∧w1.frozen? ad=false∧∀ w2,w2=w1.setCell ad (.int .u64 1)→idxS (some ⟨b1,0,none⟩) (Int.toNat (i64.wrap (p1 * 8))) 1 1 λd=>(∃ u,w2.cell? d=some u)∧w2.frozen? d=false∧∀ w3,w3=w2.setCell d (.int .u64 1)→Calls prog 112 #[.int .i64 p0] w3 λe w4=>∃ a b,e=.returned (.tuple #[.int .u64 a,.int .i64 b])∧Calls prog 52 #[.int .i64 0] w4 λe w5=>∃ c,e=.returned (.int .i64 c)∧idxS (some ⟨b1,0,none⟩) (Int.toNat (i64.wrap (p1 * 8))) c 1 λf=>(∃ u,w5.cell? f=some u)∧w5.frozen? f=false∧∀ w6,w6=w5.setCell f (.int .u64 (bor .u64 4504699138998272 a))→bW prog (.loop (sub (aA f72) [1,1,1,1,1,0,1,0,0])) (eg p1 (some ⟨b1,0,none⟩) (Int.toNat (i64.wrap (p1 * 8))) (Int.toNat (i64.wrap (p1 * 8))) 0 (ji p0::uq 2 (jz::ju a::ji b::undef::ji p1::ji (i64.wrap (p1 * 8))::js (some ⟨b1,0,none⟩) (Int.toNat (i64.wrap (p1 * 8))) (Int.toNat (i64.wrap (p1 * 8)))::js (some ⟨b1,0,none⟩) (Int.toNat (i64.wrap (p1 * 8))) (Int.toNat (i64.wrap (p1 * 8)))::js (some ⟨b1,0,none⟩) (Int.toNat (i64.wrap (p1 * 8))) (Int.toNat (i64.wrap (p1 * 8)))::jp ad::jp d::.tuple #[.int .u64 a,.int .i64 b]::ji p0::.tuple #[.int .u64 a,.int .i64 b]::ju a::ji b::js (some ⟨b1,0,none⟩) (Int.toNat (i64.wrap (p1 * 8))) (Int.toNat (i64.wrap (p1 * 8)))::ji c::ju a::ju (bor .u64 4504699138998272 a)::jp f::uq 18 []))) (aK 0 (nx f72 [1,1,1,1,1,1] R)) w6):=by kernel_rfl
theorem jU (s1:Int) (s5:Option Addr) (a b:Nat) (s8:Int) (j:LV) (N1:LV→World→Prop):W prog (sub (aA f72) [1,1,1,1,1,0,1,0,0]) (eg s1 s5 a b s8 j) (seqQ N1 (aK 0 (nx f72 [1,1,1,1,1,1] R))) w=((bif (decide ((s8:Int)<6)) then (Calls prog 75 #[.int .i64 s8] w λe w1=>∃ c,e=.returned (.int .i64 c)∧idxS s5 a c 1 λad=>(∃ u,w1.cell? ad=some u)∧w1.frozen? ad=false∧∀ w2,w2=w1.setCell ad (.int .u64 1)→N1 (eg s1 s5 a b (i64.wrap (s8+1)) (jq j 0 24 (ji s8::jb (decide ((s8:Int)<6))::ji s8::ji (i64.wrap (s8+1))::js s5 a b::ji s8::ji c::jp ad::jq j 32 10 []))) w2) else (W prog (sub (aA f72) [1,1,1,1,1,1]) (iz s1 s5 a b (jq j 0 6 (ji s8::jq j 6 18 (ji s8::jb (decide ((s8:Int)<6))::jq j 26 16 [])))) (retQ prog f72 R) w))):=by kernel_rfl
theorem lu (s1:Int) (s5:Option Addr) (a b:Nat) (j:LV):W prog (sub (aA f72) [1,1,1,1,1,1]) (iz s1 s5 a b j) (retQ prog f72 R) w=(bW prog (.loop (sub (aA f72) [1,1,1,1,1,1,0,1,0,0])) (eh s1 s5 a b 96 (jq j 0 7 (jq j 8 35 []))) (aK 2 (nx f72 [1,1,1,1,1,1,1] R)) w):=by kernel_rfl
theorem jV (s1:Int) (s5:Option Addr) (a b:Nat) (s9:Int) (j:LV) (N2:LV→World→Prop):W prog (sub (aA f72) [1,1,1,1,1,1,0,1,0,0]) (eh s1 s5 a b s9 j) (seqQ N2 (aK 2 (nx f72 [1,1,1,1,1,1,1] R))) w=((bif (decide ((s9:Int)<s1)) then (idxS s5 a (i64.wrap (s9 * 8)) 1 λad=>(∃ u,w.cell? ad=some u)∧w.frozen? ad=false∧∀ w1,w1=w.setCell ad (.int .u64 256)→N2 (eh s1 s5 a b (i64.wrap (s9+1)) (jq j 0 32 [ji s9,ji s1,jb (decide ((s9:Int)<s1)),ji s9,ji (i64.wrap (s9+1)),js s5 a b,ji s9,ji (i64.wrap (s9 * 8)),jp ad,jg j 41])) w1) else (W prog (sub (aA f72) [1,1,1,1,1,1,1]) (iA s5 a b (jg j 0::ji s1::jq j 1 6 (ji s9::jq j 7 25 (ji s9::ji s1::jb (decide ((s9:Int)<s1))::jq j 35 7 [])))) (retQ prog f72 R) w))):=by kernel_rfl
theorem lv (s5:Option Addr) (a b:Nat) (j:LV):W prog (sub (aA f72) [1,1,1,1,1,1,1]) (iA s5 a b j) (retQ prog f72 R) w=(R (.slice s5 a b) w):=by kernel_rfl
theorem sN (p0 p1:Int):fnW prog f76 [.int .i64 p0,.int .i64 p1] R w=(Calls prog 120 #[.int .i64 p0] w λe w1=>∃ a,e=.returned (.bool a)∧(bif (!a) then (R (.tuple #[.int .u64 0,.int .i64 2]) w1) else (Calls prog 119 #[.int .i64 p1] w1 λe w2=>∃ b,e=.returned (.bool b)∧(bif (!b) then (R (.tuple #[.int .u64 0,.int .i64 1]) w2) else (R (.tuple #[.int .u64 (bor .u64 (bshl .u64 (u64.wrap p0) 8) (u64.wrap (i64.wrap (p1+1)))),.int .i64 0]) w2))))):=by kernel_rfl
theorem rf (p0:Int):fnW prog f77 [.int .i64 p0] R w=(Calls prog 119 #[.int .i64 p0] w λe w1=>∃ a,e=.returned (.bool a)∧(bif (!a) then (R (.int .i64 (-1)) w1) else (Calls prog 117 #[.int .i64 p0] w1 λe w2=>∃ b,e=.returned (.int .i64 b)∧R (.int .i64 (i64.wrap (b+1))) w2))):=by kernel_rfl
theorem rg (p0:Int):fnW prog f78 [.int .i64 p0] R w=(Calls prog 119 #[.int .i64 p0] w λe w1=>∃ a,e=.returned (.bool a)∧(bif (!a) then (R (.int .i64 (-1)) w1) else (R (.int .i64 (i64.wrap (32+p0))) w1))):=by kernel_rfl
theorem rh (p0 p1:Int):fnW prog f80 [.int .i64 p0,.int .i64 p1] R w=(Calls prog 120 #[.int .i64 p0] w λe w1=>∃ a,e=.returned (.bool a)∧(bif (!a) then (R (.tuple #[.int .u64 0,.int .i64 2]) w1) else ((bif (decide ((p1:Int)<0)) then (R (.tuple #[.int .u64 0,.int .i64 1]) w1) else ((bif (decide ((p1:Int)>4294967295)) then (R (.tuple #[.int .u64 0,.int .i64 1]) w1) else (R (.tuple #[.int .u64 (bor .u64 (bshl .u64 (u64.wrap p0) 32) (u64.wrap p1)),.int .i64 0]) w1))))))):=by kernel_rfl
theorem pV (p0:Int):fnW prog f81 [.int .i64 p0] R w=(Calls prog 119 #[.int .i64 p0] w λe w1=>∃ a,e=.returned (.bool a)∧(bif (!a) then (R (.int .i64 (-1)) w1) else (R (.int .i64 (i64.wrap (40+p0))) w1))):=by kernel_rfl
def dI (s0 s4 s5:Int) (j:LV):LV:=.int .i64 s0::jq j 0 3 (.int .u64 s4::.int .i64 s5::jq j 3 18 [])
def gP (s4:Int) (j:LV):LV:=jq j 0 4 (.int .u64 s4::jq j 4 19 [])
theorem mz (p0:Int):fnW prog f112 [.int .i64 p0] R w=((bif (decide ((p0:Int)<1)) then (R (.tuple #[.int .u64 0,.int .i64 2]) w) else ((bif (decide ((p0:Int)>5)) then (R (.tuple #[.int .u64 0,.int .i64 2]) w) else (bW prog (.loop (sub (aA f112) [1,1,1,0,1,0,0])) (dI p0 549755813888 0 (undef::ju 0::ji 0::ji p0::jb (decide ((p0:Int)<1))::jb false::ji p0::jb (decide ((p0:Int)>5))::jb (decide ((p0:Int)>5))::uq 12 [])) (aK 0 (nx f112 [1,1,1,1] R)) w))))):=by kernel_rfl
theorem iS (s0 s4 s5:Int) (j:LV) (N1:LV→World→Prop):W prog (sub (aA f112) [1,1,1,0,1,0,0]) (dI s0 s4 s5 j) (seqQ N1 (aK 0 (nx f112 [1,1,1,1] R))) w=((bif (decide ((s5:Int)<s0)) then (0≤(u64.wrap (i64.wrap (7 * s5)))∧N1 (dI s0 (bor .u64 s4 (bshl .u64 7 (u64.wrap (i64.wrap (7 * s5))))) (i64.wrap (s5+1)) (jq j 0 9 [ji s5,ji s0,jb (decide ((s5:Int)<s0)),ji s5,ji (i64.wrap (s5+1)),ju s4,ji s5,ji (i64.wrap (7 * s5)),ju (u64.wrap (i64.wrap (7 * s5))),ju (bshl .u64 7 (u64.wrap (i64.wrap (7 * s5)))),ju (bor .u64 s4 (bshl .u64 7 (u64.wrap (i64.wrap (7 * s5))))),jg j 20])) w) else (W prog (sub (aA f112) [1,1,1,1]) (gP s4 (ji s0::jg j 0::jg j 1::jg j 2::ji s5::jq j 3 6 (ji s5::ji s0::jb (decide ((s5:Int)<s0))::jq j 12 9 []))) (retQ prog f112 R) w))):=by kernel_rfl
theorem jW (s4:Int) (j:LV):W prog (sub (aA f112) [1,1,1,1]) (gP s4 j) (retQ prog f112 R) w=(R (.tuple #[.int .u64 s4,.int .i64 0]) w):=by kernel_rfl
def fH (s1:Addr) (s3:Option Addr) (a b:Nat) (s4:Int) (j:LV):LV:=jq j 0 1 (.pointer (some s1)::jq j 1 1 (.slice s3 a b::.int .i64 s4::jq j 2 55 []))
def lg (s3:Option Addr) (a b:Nat) (j:LV):LV:=jq j 0 3 (.slice s3 a b::jq j 3 56 [])
def fJ (s1:Addr) (s3:Option Addr) (a b:Nat) (s4 s5:Int) (j:LV):LV:=jq j 0 1 (.pointer (some s1)::jq j 1 1 (.slice s3 a b::.int .i64 s4::.int .i64 s5::jq j 2 54 []))
def lh (a:Addr) (s3:Option Addr) (b c:Nat) (s4:Int) (j:LV):LV:=jq j 0 1 (.pointer (some a)::jq j 1 1 (.slice s3 b c::.int .i64 s4::jq j 2 55 []))
theorem rW (p0:aM):fnW prog f114 [p0.val] R w=(∀ b1 w1,b1=w.heap.size→w1=w.alloc (.cells p0.cells.toArray 210)→aM.ex λr=>aE w1 ⟨b1,0,none⟩ 0 r.cells∧Calls prog 146 #[r.val,.int .i64 256] w1 λe w2=>∃ a,e=.returned (.int .i64 a)∧(bif ((a:Int) != 0) then (R (.slice none 0 0) w2) else (∃ b,w2.cell? ⟨b1,0,none⟩=some (.int .i64 b)∧∃ c d f,w2.cell? ⟨b1,1,none⟩=some (.slice c d f)∧∀ b2 w3,b2=w2.heap.size→w3=w2.alloc (.cells #[.int .u64 (u64.wrap b),.int .u64 (u64.wrap (d:Nat))] 32)→bW prog (.loop (sub (aA f114) [1,1,1,0,1,0,0])) (fH ⟨b1,0,none⟩ (some ⟨b2,0,none⟩) 2 2 0 (p0.val::jz::undef::r.val::ji a::jb ((a:Int) != 0)::jp ⟨b1,0,none⟩::ji b::ju (u64.wrap b)::jp ⟨b1,1,none⟩::js c d f::jn d::ju (u64.wrap (d:Nat))::js (some ⟨b2,0,none⟩) 2 2::uq 43 [])) (aK 0 (nx f114 [1,1,1,1] R)) w3))):=by kernel_rfl
theorem mA (s1:Addr) (s3:Option Addr) (a b:Nat) (s4:Int) (j:LV) (N1:LV→World→Prop):W prog (sub (aA f114) [1,1,1,0,1,0,0]) (fH s1 s3 a b s4 j) (seqQ N1 (aK 0 (nx f114 [1,1,1,1] R))) w=(∃ c d f,w.cell? ⟨s1.block,s1.off+1,none⟩=some (.slice c d f)∧(bif (decide ((s4:Int)<(d:Nat))) then (∀ w1,w1=w.drew→∃ Sx:World→Prop,Sx w1∧∃ g h i,(∀ u,Sx u→u.cell? ⟨s1.block,s1.off+1,none⟩=some (.slice g h i))∧idxS g h s4 9 λad=>∃ k,(∀ u,Sx u→u.cell? ad=some (.int .i64 k))∧∃ l m n,(∀ u,Sx u→u.cell? ⟨s1.block,s1.off+1,none⟩=some (.slice l m n))∧idxS l m s4 9 λr=>∃ o,(∀ u,Sx u→u.cell? ⟨r.block,r.off+1,none⟩=some (.int .u64 o))∧∀ b1 w2,b1=w1.heap.size→w2=w1.alloc (.cells #[.int .u64 (u64.wrap k),.int .u64 o] 32)→Sx w2∧∃ (ap:Option Addr) (p q:Nat),∃ w3,(Builtin.append_ #[34,34] 34 #[.slice s3 a b,.slice (some ⟨b1,0,none⟩) 2 2]).run prog w2=.ok (.slice ap p q) w3∧Sx w3∧bW prog (.loop (sub (aA f114) [1,1,1,0,1,0,0,1,0,0,1,1,0,0])) (fJ s1 ap p q s4 0 (jg j 0::jg j 1::jq j 3 11 (ji s4::jf s1 1::js c d f::jn d::jb (decide ((s4:Int)<(d:Nat)))::jg j 19::jg j 20::js s3 a b::jf s1 1::js g h i::ji s4::jp ad::jp ad::ji k::ju (u64.wrap k)::jf s1 1::js l m n::ji s4::jp r::jf r 1::ju o::js (some ⟨b1,0,none⟩) 2 2::js ap p q::jq j 37 20 []))) (aK 2 (aK 1 (seqQ (λenv w=>W prog (sub (aA f114) [1,1,1,0,1,0,0,1,1]) env (seqQ N1 (aK 0 (nx f114 [1,1,1,1] R))) w) (seqQ N1 (aK 0 (nx f114 [1,1,1,1] R)))))) w3) else (W prog (sub (aA f114) [1,1,1,1]) (lg s3 a b (jg j 0::jp s1::jg j 1::ji s4::jq j 2 12 (ji s4::jf s1 1::js c d f::jn d::jb (decide ((s4:Int)<(d:Nat)))::jq j 19 38 []))) (retQ prog f114 R) w))):=by kernel_rfl
theorem oN (s3:Option Addr) (a b:Nat) (j:LV):W prog (sub (aA f114) [1,1,1,1]) (lg s3 a b j) (retQ prog f114 R) w=(Calls prog 147 #[.slice s3 a b] w λe w1=>∃ c,e=.returned (.int .u64 c)∧∀ b1 w2,b1=w1.heap.size→w2=w1.alloc (.cells #[.int .u64 c] 32)→∃ ap d f,∃ w3,(Builtin.append_ #[34,34] 34 #[.slice s3 a b,.slice (some ⟨b1,0,none⟩) 1 1]).run prog w2=.ok (.slice ap d f) w3∧R (.slice ap d f) w3):=by kernel_rfl
theorem mB (s1:Addr) (s3:Option Addr) (a b:Nat) (s4 s5:Int) (j:LV) (N1:LV→World→Prop) (N2:LV→World→Prop):W prog (sub (aA f114) [1,1,1,0,1,0,0,1,0,0,1,1,0,0]) (fJ s1 s3 a b s4 s5 j) (seqQ N2 (aK 2 (aK 1 (seqQ (λenv w=>W prog (sub (aA f114) [1,1,1,0,1,0,0,1,1]) env (seqQ N1 (aK 0 (nx f114 [1,1,1,1] R))) w) (seqQ N1 (aK 0 (nx f114 [1,1,1,1] R))))))) w=((bif (decide ((s5:Int)<7)) then (∃ c d f,w.cell? ⟨s1.block,s1.off+1,none⟩=some (.slice c d f)∧idxS c d s4 9 λad=>idxA ⟨ad.block,ad.off+2,none⟩ 7 s5 1 λi=>∃ x,w.cell? i=some (.int .u64 x)∧∀ b1 w1,b1=w.heap.size→w1=w.alloc (.cells #[.int .u64 x] 32)→∃ ap g h,∃ w2,(Builtin.append_ #[34,34] 34 #[.slice s3 a b,.slice (some ⟨b1,0,none⟩) 1 1]).run prog w1=.ok (.slice ap g h) w2∧N2 (fJ s1 ap g h s4 (i64.wrap (s5+1)) (jq j 0 36 (ji s5::jb (decide ((s5:Int)<7))::ji s5::ji (i64.wrap (s5+1))::js s3 a b::jf s1 1::js c d f::ji s4::ji s5::jp ad::jf ad 2::jp i::ju x::js (some ⟨b1,0,none⟩) 1 1::js ap g h::jq j 51 5 []))) w2) else (W prog (sub (aA f114) [1,1,1,0,1,0,0,1,1]) (lh s1 s3 a b s4 (jg j 0::jg j 1::ji s5::jq j 2 34 (ji s5::jb (decide ((s5:Int)<7))::jq j 38 18 []))) (seqQ N1 (aK 0 (nx f114 [1,1,1,1] R))) w))):=by kernel_rfl
theorem oO (a:Addr) (s3:Option Addr) (b c:Nat) (s4:Int) (j:LV) (N1:LV→World→Prop):W prog (sub (aA f114) [1,1,1,0,1,0,0,1,1]) (lh a s3 b c s4 j) (seqQ N1 (aK 0 (nx f114 [1,1,1,1] R))) w=(N1 (fH a s3 b c (i64.wrap (s4+1)) (jq j 0 19 (ji s4::ji (i64.wrap (s4+1))::jq j 21 36 []))) w):=by kernel_rfl
theorem qJ (p0:Int):fnW prog f115 [.int .i64 p0] R w=(Calls prog 119 #[.int .i64 p0] w λe w1=>∃ a,e=.returned (.bool a)∧(bif (!a) then (R (.int .i64 (-1)) w1) else (Calls prog 117 #[.int .i64 p0] w1 λe w2=>∃ b,e=.returned (.int .i64 b)∧R (.int .i64 (i64.wrap (b+8))) w2))):=by kernel_rfl
theorem rX (p0:Int):fnW prog f116 [.int .i64 p0] R w=((bif (decide ((p0:Int)<1)) then (R (.tuple #[.int .u64 0,.int .i64 2]) w) else ((bif (decide ((p0:Int)≥1073741824)) then (R (.tuple #[.int .u64 0,.int .i64 2]) w) else (R (.tuple #[.int .u64 (bor .u64 (bshl .u64 (u64.wrap p0) 2) 2),.int .i64 0]) w))))):=by kernel_rfl
theorem qK (p0:Int):fnW prog f117 [.int .i64 p0] R w=(Calls prog 119 #[.int .i64 p0] w λe w1=>∃ a,e=.returned (.bool a)∧(bif (!a) then (R (.int .i64 (-1)) w1) else (R (.int .i64 (i64.wrap ((i64.wrap (6+(i64.wrap (p0 * 15)))) * 8))) w1))):=by kernel_rfl
theorem qL (p0:aG) (p1:Int):fnW prog f118 [p0.val,.int .i64 p1] R w=(∀ b1 w1,b1=w.heap.size→w1=w.alloc (.cells p0.cells.toArray 140)→∃ a,w1.cell? ⟨b1,1,none⟩=some (.int .u64 a)∧Calls prog 148 #[.int .u64 a,.int .i64 p1] w1 λe w2=>∃ b c,e=.returned (.tuple #[.int .u64 b,.int .i64 c])∧R (.tuple #[.int .u64 b,.int .i64 c]) w2):=by kernel_rfl
theorem sO (p0:Int):fnW prog f120 [.int .i64 p0] R w=((bif (decide ((p0:Int)≥1)) then ((bif (decide ((p0:Int)≤59)) then (R (.bool (((Int.tmod p0 2):Int) == 1)) w) else (R (.bool false) w))) else (R (.bool false) w))):=by kernel_rfl
theorem oP (p0 p1 p2:Int):fnW prog f121 [.int .u64 p0,.int .u64 p1,.int .u64 p2] R w=((bif (decide ((p0:Int)≥4096)) then (R (.tuple #[.int .u64 0,.int .i64 2]) w) else ((bif (decide ((p1:Int)≥4096)) then (R (.tuple #[.int .u64 0,.int .i64 2]) w) else ((bif (decide ((p2:Int)≥1099511627776)) then (R (.tuple #[.int .u64 0,.int .i64 2]) w) else (R (.tuple #[.int .u64 (bor .u64 (bor .u64 (bshl .u64 p0 52) (bshl .u64 p1 40)) p2),.int .i64 0]) w))))))):=by kernel_rfl
def eV (s0:Option Addr) (a b:Nat) (s3 s4:Int) (j:LV):LV:=.slice s0 a b::jq j 0 2 (.int .u64 s3::.int .i64 s4::jq j 2 14 [])
def kt (s3:Int) (j:LV):LV:=jq j 0 3 (.int .u64 s3::jq j 3 15 [])
theorem ri (p0:Option Addr) (a b:Nat):fnW prog f147 [.slice p0 a b] R w=(bW prog (.loop (sub (aA f147) [1,1,0,1,0,0])) (eV p0 a b 0 0 (undef::ju 0::uq 14 [])) (aK 0 (nx f147 [1,1,1] R)) w):=by kernel_rfl
theorem lT (s0:Option Addr) (a b:Nat) (s3 s4:Int) (j:LV) (N1:LV→World→Prop):W prog (sub (aA f147) [1,1,0,1,0,0]) (eV s0 a b s3 s4 j) (seqQ N1 (aK 0 (nx f147 [1,1,1] R))) w=((bif (decide ((s4:Int)<(a:Nat))) then (idxS s0 a s4 1 λad=>∃ x,w.cell? ad=some (.int .u64 x)∧Calls prog 177 #[.int .u64 x] w λe w1=>∃ c d f,e=.returned (.slice c d f)∧Calls prog 176 #[.int .u64 s3,.slice c d f] w1 λe w2=>∃ g,e=.returned (.int .u64 g)∧N1 (eV s0 a b g (i64.wrap (s4+1)) [jg j 0,jg j 1,ji s4,js s0 a b,jn a,jb (decide ((s4:Int)<(a:Nat))),ji s4,ji (i64.wrap (s4+1)),ju s3,js s0 a b,ji s4,jp ad,ju x,js c d f,ju g,jg j 15]) w2) else (W prog (sub (aA f147) [1,1,1]) (kt s3 (js s0 a b::jg j 0::jg j 1::ji s4::ji s4::js s0 a b::jn a::jb (decide ((s4:Int)<(a:Nat)))::jq j 6 10 [])) (retQ prog f147 R) w))):=by kernel_rfl
theorem oe (s3:Int) (j:LV):W prog (sub (aA f147) [1,1,1]) (kt s3 j) (retQ prog f147 R) w=(R (.int .u64 s3) w):=by kernel_rfl
theorem rY (p0 p1:Int):fnW prog f148 [.int .u64 p0,.int .i64 p1] R w=(Calls prog 119 #[.int .i64 p1] w λe w1=>∃ a,e=.returned (.bool a)∧(bif (!a) then (R (.tuple #[.int .u64 0,.int .i64 1]) w1) else (Calls prog 175 #[.int .u64 p0] w1 λe w2=>∃ b,e=.returned (.bool b)∧(bif (!b) then (R (.tuple #[.int .u64 0,.int .i64 3]) w2) else (R (.tuple #[.int .u64 (bor .u64 p0 (u64.wrap (i64.wrap (p1+1)))),.int .i64 0]) w2))))):=by kernel_rfl
def eL (s1:Option Addr) (a b:Nat) (s5 s6:Int) (j:LV):LV:=jq j 0 1 (.slice s1 a b::jq j 1 3 (.int .u64 s5::.int .i64 s6::jq j 4 31 []))
def jK (s5:Int) (j:LV):LV:=jq j 0 5 (.int .u64 s5::jq j 5 32 [])
def dV (s1:Option Addr) (a b:Nat) (s5 s6 s7:Int) (j:LV):LV:=jq j 0 1 (.slice s1 a b::jq j 1 3 (.int .u64 s5::.int .i64 s6::.int .i64 s7::jq j 4 30 []))
def jL (s1:Option Addr) (a b:Nat) (s5 s6:Int) (j:LV):LV:=jq j 0 1 (.slice s1 a b::jq j 1 3 (.int .u64 s5::.int .i64 s6::jq j 4 31 []))
theorem qM (p0:Int) (p1:Option Addr) (a b:Nat):fnW prog f176 [.int .u64 p0,.slice p1 a b] R w=(bW prog (.loop (sub (aA f176) [1,1,0,1,0,0])) (eL p1 a b (bxor .u64 18446744073709551615 p0) 0 (ju p0::uq 2 (ju 0::uq 2 (ju p0::ju (bxor .u64 18446744073709551615 p0)::uq 27 [])))) (aK 0 (nx f176 [1,1,1] R)) w):=by kernel_rfl
theorem lw (s1:Option Addr) (a b:Nat) (s5 s6:Int) (j:LV) (N1:LV→World→Prop):W prog (sub (aA f176) [1,1,0,1,0,0]) (eL s1 a b s5 s6 j) (seqQ N1 (aK 0 (nx f176 [1,1,1] R))) w=((bif (decide ((s6:Int)<(a:Nat))) then (idxS s1 a s6 1 λad=>∃ x,w.cell? ad=some (.int .u8 x)∧bW prog (.loop (sub (aA f176) [1,1,0,1,0,0,1,0,0,1,1,0,0])) (dV s1 a b (bxor .u64 s5 (u64.wrap x)) s6 0 (jq j 0 4 (jg j 5::jg j 6::jg j 7::ji s6::js s1 a b::jn a::jb (decide ((s6:Int)<(a:Nat)))::jg j 12::jg j 13::ju s5::js s1 a b::ji s6::jp ad::.int .u8 x::ju (u64.wrap x)::ju (bxor .u64 s5 (u64.wrap x))::jq j 21 14 []))) (aK 2 (aK 1 (seqQ (λenv w=>W prog (sub (aA f176) [1,1,0,1,0,0,1,1]) env (seqQ N1 (aK 0 (nx f176 [1,1,1] R))) w) (seqQ N1 (aK 0 (nx f176 [1,1,1] R)))))) w) else (W prog (sub (aA f176) [1,1,1]) (jK s5 (jg j 0::js s1 a b::jg j 1::jg j 2::jg j 3::ji s6::jq j 4 4 (ji s6::js s1 a b::jn a::jb (decide ((s6:Int)<(a:Nat)))::jq j 12 23 []))) (retQ prog f176 R) w))):=by kernel_rfl
theorem nr (s5:Int) (j:LV):W prog (sub (aA f176) [1,1,1]) (jK s5 j) (retQ prog f176 R) w=(R (.int .u64 (bxor .u64 18446744073709551615 s5)) w):=by kernel_rfl
theorem lx (s1:Option Addr) (a b:Nat) (s5 s6 s7:Int) (j:LV) (N1:LV→World→Prop) (N2:LV→World→Prop):W prog (sub (aA f176) [1,1,0,1,0,0,1,0,0,1,1,0,0]) (dV s1 a b s5 s6 s7 j) (seqQ N2 (aK 2 (aK 1 (seqQ (λenv w=>W prog (sub (aA f176) [1,1,0,1,0,0,1,1]) env (seqQ N1 (aK 0 (nx f176 [1,1,1] R))) w) (seqQ N1 (aK 0 (nx f176 [1,1,1] R))))))) w=((bif (decide ((s7:Int)<8)) then ((bif (((band .u64 s5 1):Int) == 1) then (N2 (dV s1 a b (bxor .u64 (bshr .u64 s5 1) 14514072000185962306) s6 (i64.wrap (s7+1)) (jq j 0 4 (ju (band .u64 s5 1)::jq j 5 15 [ji s7,jb (decide ((s7:Int)<8)),ji s7,ji (i64.wrap (s7+1)),ju s5,ju (band .u64 s5 1),ju s5,ju (bshr .u64 s5 1),ju (band .u64 s5 1),jb (((band .u64 s5 1):Int) == 1),ju (bshr .u64 s5 1),ju (bxor .u64 (bshr .u64 s5 1) 14514072000185962306),jg j 32,jg j 33]))) w) else (N2 (dV s1 a b (bshr .u64 s5 1) s6 (i64.wrap (s7+1)) (jq j 0 4 (ju (band .u64 s5 1)::jq j 5 15 (ji s7::jb (decide ((s7:Int)<8))::ji s7::ji (i64.wrap (s7+1))::ju s5::ju (band .u64 s5 1)::ju s5::ju (bshr .u64 s5 1)::ju (band .u64 s5 1)::jb (((band .u64 s5 1):Int) == 1)::jq j 30 4 [])))) w))) else (W prog (sub (aA f176) [1,1,0,1,0,0,1,1]) (jL s1 a b s5 s6 (jq j 0 4 (ji s7::jq j 4 16 (ji s7::jb (decide ((s7:Int)<8))::jq j 22 12 [])))) (seqQ N1 (aK 0 (nx f176 [1,1,1] R))) w))):=by kernel_rfl
theorem nt (s1:Option Addr) (a b:Nat) (s5 s6:Int) (j:LV) (N1:LV→World→Prop):W prog (sub (aA f176) [1,1,0,1,0,0,1,1]) (jL s1 a b s5 s6 j) (seqQ N1 (aK 0 (nx f176 [1,1,1] R))) w=(N1 (eL s1 a b s5 (i64.wrap (s6+1)) (jq j 0 12 (ji s6::ji (i64.wrap (s6+1))::jq j 14 21 []))) w):=by kernel_rfl
def eM (s0:Int) (s3:Option Addr) (a b:Nat) (s4:Int) (j:LV):LV:=.int .u64 s0::jq j 0 2 (.slice s3 a b::.int .i64 s4::jq j 2 15 [])
def jM (s3:Option Addr) (a b:Nat) (j:LV):LV:=jq j 0 3 (.slice s3 a b::jq j 3 16 [])
theorem qN (p0:Int):fnW prog f177 [.int .u64 p0] R w=(mk3 8 8 1 (.cells (reps (Int.toNat 8) [.int .u8 0]).toArray 5) w λb1 w1=>bW prog (.loop (sub (aA f177) [1,1,0,1,0,0])) (eM p0 (some ⟨b1,0,none⟩) (Int.toNat 8) (Int.toNat 8) 0 (undef::jz::js (some ⟨b1,0,none⟩) (Int.toNat 8) (Int.toNat 8)::uq 14 [])) (aK 0 (nx f177 [1,1,1] R)) w1):=by kernel_rfl
theorem ly (s0:Int) (s3:Option Addr) (a b:Nat) (s4:Int) (j:LV) (N1:LV→World→Prop):W prog (sub (aA f177) [1,1,0,1,0,0]) (eM s0 s3 a b s4 j) (seqQ N1 (aK 0 (nx f177 [1,1,1] R))) w=((bif (decide ((s4:Int)<8)) then (0≤(u64.wrap (i64.wrap (8 * s4)))∧idxS s3 a s4 1 λad=>(∃ u,w.cell? ad=some u)∧w.frozen? ad=false∧∀ w1,w1=w.setCell ad (.int .u8 (IntKind.u8.wrap (bshr .u64 s0 (u64.wrap (i64.wrap (8 * s4))))))→N1 (eM s0 s3 a b (i64.wrap (s4+1)) [jg j 0,jg j 1,jg j 2,ji s4,jb (decide ((s4:Int)<8)),ji s4,ji (i64.wrap (s4+1)),js s3 a b,ji s4,ju s0,ji s4,ji (i64.wrap (8 * s4)),ju (u64.wrap (i64.wrap (8 * s4))),ju (bshr .u64 s0 (u64.wrap (i64.wrap (8 * s4)))),.int .u8 (IntKind.u8.wrap (bshr .u64 s0 (u64.wrap (i64.wrap (8 * s4))))),jp ad,jg j 16]) w1) else (W prog (sub (aA f177) [1,1,1]) (jM s3 a b (ju s0::jg j 0::jg j 1::ji s4::jg j 2::ji s4::jb (decide ((s4:Int)<8))::jq j 5 12 [])) (retQ prog f177 R) w))):=by kernel_rfl
theorem nu (s3:Option Addr) (a b:Nat) (j:LV):W prog (sub (aA f177) [1,1,1]) (jM s3 a b j) (retQ prog f177 R) w=(R (.slice s3 a b) w):=by kernel_rfl
end Go.Proofs.YtafopfaomkklpaaGreat
