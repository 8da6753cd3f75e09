import Derived.Test.YtegepanmkjemjaaGreatt19
import Derived.Test.YtegepanmkjemjaaGreatt22
import Derived.Test.YtegepanmkjemjaaGreatt29
import Derived.Test.YtegepanmkjemjaaGreatt01
import Derived.Laws.StructEq
import Derived.Test.YtegepanmkjemjaaGreatt20
set_option linter.unusedVariables false
namespace Go.Proofs.YtegepanmkjemjaaGreat.C12
open Go.Eng
def vq (F:Fab):Bool:=F.orphans.isEmpty && F.clients.all λC=>decide (C.lanes.length≤F.nodes.length) && C.lanes.all λl=>l.pair.verbs.isEmpty && l.places.isEmpty
theorem CK {F:Fab} (h:vq F=true) (c:Nat):Solo c F:=by
 simp only [vq,Bool.and_eq_true,List.isEmpty_iff,List.all_eq_true,decide_eq_true_eq] at h
 obtain ⟨h1,h2⟩:=h
 have hl:∀ (i:Nat) (C:Comp),F.clients[i]?=some C→C.lanes.length≤F.nodes.length∧∀ (j:Nat) (l:Lane),C.lanes[j]?=some l→l.pair.verbs=[]∧l.places=[]:=λi C hC=>⟨(h2 C (List.mem_of_getElem? hC)).1,λj l hj=>(h2 C (List.mem_of_getElem? hC)).2 l (List.mem_of_getElem? hj)⟩
 refine ⟨h1,λi C _ hC j l hj=>((hl i C hC).2 j l hj).1,λC hC=>⟨λi l hi=>?_,λi j l l' _ hi hj k hk=>?_⟩,λC hC=>(hl c C hC).1⟩
 ·obtain ⟨a,b⟩:=(hl c C hC).2 i l hi
  rw [a,b]
  rfl
 ·rw [((hl c C hC).2 i l hi).2] at hk
  cases hk
def Ag (c:Nat) (F:Fab) (t:Tk conv):Option (Fab×Tk conv):=match runP c 400 (turn F t) with
 |some (k,e)=>if k<3000 then some (turn e.1 e.2) else none
 |none=>none
theorem CL {c:Nat} {F:Fab} {t:Tk conv} {e:Fab×Tk conv} (hf:Fine F) (hs:vq F=true) (hc:t.client=(c:Int)) (h:Ag c F t=some e) (sch:List Int) {most:Nat} (hm:3000≤most):drive F [t] sch [] most=(e.1,[e.2]):=by
 unfold Ag at h
 cases hr:runP c 400 (turn F t) with
 |none=>rw [hr] at h;cases h
 |some x=>
  obtain ⟨k,e'⟩:=x
  rw [hr] at h
  simp only at h
  split at h
  ·rename_i hk
   have:=Cs (sch:=sch) (most:=most) ⟨hf,CK hs c,hc⟩ hr (by omega)
   rw [this]
   cases h
   rfl
  ·cases h
def noN:aP:=⟨[],true⟩
def oh (F:Fab) (i:Nat):aP:=F.nodes.getD i noN
def pgE (E:List Int) (l:Nat):aD:=⟨l,E.getD ((l - 96) * 8) 0,E.getD ((l - 96) * 8+1) 0,E.getD ((l - 96) * 8+2) 0,E.getD ((l - 96) * 8+3) 0,E.getD ((l - 96) * 8+4) 0,E.getD ((l - 96) * 8+5) 0,E.getD ((l - 96) * 8+6) 0,E.getD ((l - 96) * 8+7) 0⟩
structure EqN (a b:aP) (lines:Nat):Prop where
 up:b.down=false
 page:∀ l,96≤l→l<lines→a.page l=b.page l∧a.get (l * 8) % 256=0
 clock:∀ c,c<6→a.get (32+c)=b.get (32+c)∧a.get (24+c)=b.get (24+c)
structure EqF (F:Fab) (n lines:Nat) (E:List Int):Prop where
 len:F.nodes.length=n
 lns:F.lines=lines
 page:∀ i,i<n→∀ l,96≤l→l<lines→(oh F i).page l=pgE E l
 eq:∀ i,i<n→EqN (oh F 0) (oh F i) lines
def bump (c:Int) (p:aD):aD:={ p with Head:=Bx .u64 p.Head 255,Data0:=IntKind.u64.wrap (p.Data0+1),Data1:=IntKind.u64.wrap (IntKind.i64.wrap (c+1)) }
def cws (c:Int) (n:aP) (L:List Nat):List aD:=L.map λl=>bump c (n.page l)
end Go.Proofs.YtegepanmkjemjaaGreat.C12
namespace Go.Proofs.YtegepanmkjemjaaGreat
open Go.Eng
theorem TW.more {A:Nat→Prop} {χ:Nat→Tag} {w u u':World} {fb:Nat} {L B:Nat→Prop} {ξ:Nat→Tag} {X:FabX} (t:TW A χ w fb L u B ξ X) (hn:New u u'):TW A χ w fb (λk=>L k∨(u.heap.size≤k∧k<u'.heap.size)) u' B ξ X:=by
 have hs:=t.next.keep.size
 refine ⟨⟨t.next.keep.trans hn λk hlt hs=>hs.elim,t.next.grow,t.next.iff⟩,?_,λk hk=>?_⟩
 ·refine (t.fab.widen hn).recolor (λk hk=>?_) λk hk=>.inl ((t.next.iff k).2 (.inl hk))
  rcases hk with hk | hk | hk
  ·exact .inl (.inl hk)
  ·exact .inl (.inr hk)
  ·exact .inr hk
 ·rcases hk with hk | hk
  ·have:=t.loc k hk
   exact ⟨this.1,Nat.lt_of_lt_of_le this.2.1 hn.size,this.2.2⟩
  ·exact ⟨by omega,hk.2,t.fab.fresh hk.1⟩
theorem TW.out {A:Nat→Prop} {χ:Nat→Tag} {w u:World} {fb:Nat} {L B:Nat→Prop} {ξ:Nat→Tag} {X:FabX} (t:TW A χ w fb L u B ξ X) {k:Nat} (hk:L k):¬ B k:=λhb=>by
 obtain ⟨h1,h2,h3⟩:=t.loc k hk
 rcases (t.next.iff k).1 hb with h | h
 ·exact h h3
 ·omega
theorem TW.mine {A:Nat→Prop} {χ:Nat→Tag} {w0 w u:World} {fb:Nat} {L B:Nat→Prop} {ξ:Nat→Tag} {X X0:FabX} (t:TW A χ w fb L u B ξ X) (hF:aZ A χ w fb X0) (hn:New w0 w) (hA:∀ k,A k→w0.heap.size≤k):New w0 u:=
 hn.trans t.next.keep λk hk hc=>by
  have:=hA k (hF.avoid k hc)
  omega
theorem Ej {A:Nat→Prop} {χ:Nat→Tag} {w:World} {fb:Nat} {X:FabX} (h:aZ A χ w fb X) {c:Nat} {C:Comp} (hc:X.pure.clients[c]?=some C):Does 34 [ptr fb,.int .i64 c] w λv w'=>v=.int .i64 C.posted∧w'=w:=by
 refine does Tryz.func34 ?_
 rw [ptr,oN]
 have hx:∃ x,X.clients[c]?=some x∧x.pure=C:=by simpa [FabX.pure] using hc
 obtain ⟨x,h1,rfl⟩:=hx
 refine aG (gS h h1) ?_
 rintro v w' ⟨rfl,rfl⟩
 exact ⟨_,rfl,⟨_,h.ccell (k:=6) h1 rfl,rfl,rfl⟩⟩
abbrev TFo:TypeId:=40
def fofC (fb:Nat) (lines:Int) (r:aQ):List Value:=[ptr fb,.int .i64 lines,.int .i64 r.Number,.slice r.Members r.Members_l r.Members_c]
def Ek (n:Nat):Vw:=⟨0,stM n⟩
structure Made (w u:World) (n lines:Nat) (fb p:Nat) (A:Nat→Prop) (χ:Nat→Tag) (X:FabX) (r:aQ):Prop where
 fab:aZ A χ u fb X
 pure:X.pure=Fab.fresh n 6 lines
 new:New w u
 own:∀ k,A k→w.heap.size≤k
 box:Blk u p (fofC fb lines r) TFo
 out:¬ A p
 view:gU A u r (Ek n)
theorem F7 {w:World} {n:Nat} (hn:1≤n∧n≤5) {x:Int} (hx:I64 x):Does 12 [.int .i64 n,.int .i64 x] w λv u=>∃ fb p A χ X r,v=.tuple #[ptr p,.bool true]∧Made w u n (98+(x % 7).toNat) fb p A χ X r:=by
 refine does Tryz.func12 ?_
 rw [qH]
 have e:(98+x % 7:Int)=((98+(x % 7).toNat:Nat):Int):=by omega
 refine aG (Cu _ hx) ?_
 rintro v u1 ⟨rfl,rfl⟩
 rw [e]
 refine ⟨_,rfl,?_⟩
 refine aG (Cf (c:=6) (lines:=98+(x % 7).toNat) hn (by omega) (by omega)) ?_
 rintro v u2 ⟨fb,A,χ,X,rfl,hF,hn2,hA,hX⟩
 refine ⟨_,_,rfl,?_⟩
 refine aG (Cu _ hx) ?_
 rintro v u3 ⟨rfl,rfl⟩
 rw [e]
 refine ⟨_,rfl,?_⟩
 refine aG (Cw _ (n:=n) (by omega) (by omega)) ?_
 rintro v u4 ⟨r,vw,rfl,hv,hn4,_,rfl⟩
 refine aQ.mk_ex r ⟨rfl,?_⟩
 rintro b1 u5 hb1 hu5
 obtain ⟨hz5,hn5⟩:=aO hb1 hu5
 clear hu5
 have hs4:=hn4.size
 refine ⟨fb,b1,A,χ,X,r,rfl,(hF.new hn4).new hn5,hX,(hn2.new hn4).new hn5,hA,hz5,λh=>?_,?_⟩
 ·have:=hF.low _ h
  omega
 ·have h1:gU A u4 r ⟨0,stM (n:Int).toNat⟩:=hv.mono λk _ hk=>hF.low k hk
  exact h1.new hn5
def El (x q:Nat):Bool:=(x+1) / 2 ^ q % 2 == 1
def iX (x i:Nat):List Nat:=((List.range i).filter (El x)).map (96+·)
def dI (x:Nat):List Nat:=iX x 4
def ns (l:List Nat):List Int:=l.map Int.ofNat
theorem sM (x i:Nat):iX x (i+1)=iX x i++(if El x i=true then [96+i] else []):=by
 unfold iX
 rw [List.range_succ,List.filter_append,List.map_append]
 congr 1
 cases h:El x i<;>simp [h]
theorem Bj:∀ x,x<14→∀ i,i<4→(band .i64 (bshr .i64 (((x+1:Nat):Int)) ((i:Nat):Int)) 1 == 1)=El x i:=by decide
theorem wu {x l:Nat} (h:l ∈ dI x):96≤l∧l<100:=by
 simp only [dI,iX,List.mem_map,List.mem_filter,List.mem_range] at h
 obtain ⟨q,⟨h1,_⟩,rfl⟩:=h
 omega
theorem yv (x i:Nat):(iX x i).length≤i:=by
 unfold iX
 rw [List.length_map]
 exact Nat.le_trans (List.length_filter_le _ _) (by simp)
theorem Em {w:World} {x:Int} (hx:I64 x):Does 22 [.int .i64 x] w λv u=>∃ a c,v=.slice a (dI (x % 14).toNat).length c∧Rd u a (is (ns (dI (x % 14).toNat)))∧New w u:=by
 refine does Tryz.func22 ?_
 rw [p7]
 obtain ⟨y,hy,hy14⟩:∃ y:Nat,x % 14=y∧y<14:=⟨(x % 14).toNat,by omega,by omega⟩
 refine aR mix (λm env u=>∃ (i:Nat) (a:Option Addr) (n c:Nat) (jj:List Value),m=4 - i∧i≤4∧n=(iX y i).length∧env=dG x a n c i jj∧New w u∧Owns u 3 1 a n c (is (ns (iX y i)))∧∀ k,isB a k→w.heap.size≤k) 4
  ⟨0,none,0,0,_,rfl,by omega,rfl,rfl,Keep.refl _ _,Owns.nil _ _ _,λk hk=>(lu hk).elim⟩ ?_
 rintro m env u ⟨i,a,n,c,jj,rfl,hi,rfl,rfl,hn,hown,hfr⟩
 rw [kW]
 refine aI (λhlt=>?_) (λhge=>?_)
 ·have hlt:i<4:=by omega
  refine aG (nT _ _ _ hx (by omega)) ?_
  rintro v u1 ⟨rfl,rfl⟩
  rw [if_neg (by omega),hy]
  refine ⟨_,rfl,?_⟩
  have hlen:=yv y i
  have e1:IntKind.i64.wrap ((y:Int)+1)=((y+1:Nat):Int):=by rw [w64 (by omega) (by omega)];omega
  have e2:IntKind.u64.wrap (i:Int)=(i:Int):=wK (by omega) (by omega)
  rw [e1,e2,Bj y hy14 i hlt,w64 (x:=(i:Int)+1) (by omega) (by omega),w64 (x:=96+(i:Int)) (by omega) (by omega)]
  refine ⟨by omega,jP (λhb=>?_) (λhb=>?_)⟩
  ·refine FE hown (x:=96+(i:Int)) (by omega) ?_
   intro b ap cap u3 hb3 ho3 hk3 hap
   have hsz:=hn.size
   have hs:=sM y i
   rw [if_pos hb] at hs
   refine ⟨4 - (i+1),by omega,i+1,ap,_,cap,_,rfl,by omega,by rw [hs,List.length_append];rfl,rfl,ma hn hk3 hfr,?_,λk hk=>?_⟩
   ·rw [hs]
    have:is (ns (iX y i++[96+i]))=is (ns (iX y i)++[96+(i:Int)]):=by simp [is,ns]
    rw [this]
    exact ho3
   ·rcases hap k hk with h1 | h1
    ·exact hfr k h1
    ·omega
  ·have hs:=sM y i
   rw [if_neg (by simp [hb]),List.append_nil] at hs
   exact ⟨4 - (i+1),by omega,i+1,a,_,c,_,rfl,by omega,by rw [hs],rfl,hn,by rw [hs];exact hown,hfr⟩
 ·have:i=4:=by omega
  subst this
  rw [mH]
  have e:(x % 14).toNat=y:=by omega
  rw [e]
  exact ⟨a,c,rfl,hown.rd,hn⟩
end Go.Proofs.YtegepanmkjemjaaGreat
namespace Go.Mx
open Go.Eng
def Ah (sz:TypeId→Nat) (f:TypeId→Option (List Bool)):List Field→Nat→Option (List Bool)
 | [],off=>some []
 |fd::fs,off=>match f fd.type with
  |some ks=>match fd.name != "_" && (Nat.beq fd.offset off && Nat.beq (sz fd.type) ks.length) with
   |true=>match Ah sz f fs (off+ks.length) with
    |some r=>some (ks++r)
    |none=>none
   |false=>none
  |none=>none
def vX (P:Program):Nat→TypeId→Option (List Bool)
 | 0,_=>none
 |d+1,t=>match P.underlying t with
  |some (.int _)=>some [false]
  |some .bool=>some [true]
  |some (.struct fs)=>match P.stoodInHeld t with
   |true=>none
   |false=>Ah (yQ P) (vX P d) fs.toList 0
  |some (.array len e)=>match vX P d e with
   |some ks=>match Nat.beq (yQ P e) ks.length with
    |true=>some (List.replicate len ks).flatten
    |false=>none
   |none=>none
  | _=>none
def cmp1:Bool→Value→Value→Prop
 |false,.int k _,.int j _=>k=j
 |true,.bool _,.bool _=>True
 | _,_,_=>False
def sN:List Bool→List Value→List Value→Prop
 | [],[],[]=>True
 |k::ks,x::xs,y::ys=>cmp1 k x y∧sN ks xs ys
 | _,_,_=>False
def eqv1:Value→Value→Bool
 | .int _ a,.int _ b=>a == b
 | .bool a,.bool b=>a == b
 | _,_=>true
def eqvL:List Value→List Value→Bool
 |x::xs,y::ys=>eqv1 x y && eqvL xs ys
 | _,_=>true
theorem sN.len:∀ {ks:List Bool} {xs ys:List Value},sN ks xs ys→xs.length=ks.length∧ys.length=ks.length
 | [],[],[],_=>⟨rfl,rfl⟩
 | _::_,_::_,_::_,⟨_,h⟩=>by simp [sN.len h]
theorem sN.split:∀ {ks ls:List Bool} {xs ys:List Value},sN (ks++ls) xs ys→sN ks (xs.take ks.length) (ys.take ks.length)∧sN ls (xs.drop ks.length) (ys.drop ks.length)∧
  eqvL xs ys=(eqvL (xs.take ks.length) (ys.take ks.length) && eqvL (xs.drop ks.length) (ys.drop ks.length))
 | [],ls,xs,ys,h=>⟨trivial,h,rfl⟩
 |k::ks,ls,x::xs,y::ys,⟨a,h⟩=>by
  obtain ⟨h1,h2,h3⟩:=sN.split h
  refine ⟨⟨a,h1⟩,h2,?_⟩
  show (eqv1 x y && eqvL xs ys)=((eqv1 x y && eqvL (xs.take ks.length) (ys.take ks.length)) && eqvL (xs.drop ks.length) (ys.drop ks.length))
  rw [h3,Bool.and_assoc]
theorem CM {k:Bool}:∀ {xs ys:List Value},sN [k] xs ys→∃ x y,xs=[x]∧ys=[y]∧cmp1 k x y
 | [],[],h=>h.elim
 | [],_::_,h=>h.elim
 | _::_,[],h=>h.elim
 | [x],[y],h=>⟨x,y,rfl,rfl,h.1⟩
 | _::_::_,[_],h=>h.2.elim
 | [_],_::_::_,h=>h.2.elim
 | _::_::_,_::_::_,h=>h.2.elim
section
variable {P:Program}
def vY (P:Program) (t:TypeId) (xs:List Value):Value:=if isAgg? P t=true then .agg xs.toArray else xs.headD undef
theorem Ai {t:TypeId} {i:TypeInfo} {dsc:TypeDesc} (hi:P.info? t=some i) (hd:P.underlying t=some dsc) {cs:List Value} {off n:Nat} (hn:i.size=n) (hl:off+n≤cs.length) (h1:isAgg? P t=false→n=1) (w:World) :
  (part t cs.toArray off).run P w=.ok (vY P t ((cs.drop off).take n)) w:=by
 unfold part vY
 rw [Sem.run_bind,kf hd]
 simp only [Result.andThen_ok]
 split
 ·simp only [Sem.run_bind,Eng.run_sizeOf hi,Result.andThen_ok,Sem.run_pure,hn]
  congr 2
  apply Array.ext'
  simp [List.extract]
 ·rename_i ha
  have hn1:=h1 (by simpa using ha)
  subst hn1
  have hlt:off<cs.length:=by omega
  have hx:(cs.drop off).take 1=[cs[off]]:=by
   rw [List.drop_eq_getElem_cons hlt]
   rfl
  have hg:cs.toArray[off]?=some cs[off]:=by simp [hlt]
  rw [hx]
  simp only [hg]
  rfl
theorem yw {d:Nat} {t:TypeId} {n:List Bool} (h:vX P d t=some n):∃ i dsc,P.info? t=some i∧P.underlying t=some dsc:=by
 cases d with
 |zero=>cases h
 |succ d=>
  unfold vX at h
  cases hu:P.underlying t with
  |none=>rw [hu] at h;cases h
  |some dsc=>
   cases hi:P.info? t with
   |some i=>exact ⟨i,dsc,rfl,rfl⟩
   |none=>simp [Program.underlying,hi] at hu
theorem vr {d:Nat} {t:TypeId} {n:List Bool} (h:vX P d t=some n) (ha:isAgg? P t=false):n.length=1:=by
 cases d with
 |zero=>cases h
 |succ d=>
  unfold vX at h
  unfold isAgg? at ha
  split at h
  ·cases h;rfl
  ·cases h;rfl
  ·rename_i hu;rw [hu] at ha;cases ha
  ·rename_i hu;rw [hu] at ha;cases ha
  ·cases h
def EqOk (P:Program) (D:Nat) (t:TypeId) (ks:List Bool):Prop:=∀ xs ys:List Value,sN ks xs ys→∀ w,(Op.equalIn D t (vY P t xs) (vY P t ys)).run P w=.ok (eqvL xs ys) w
theorem CN {t:TypeId} {ks:List Bool} {D off:Nat} {xs ys:List Value} (hE:EqOk P D t ks) {i:TypeInfo} {dsc:TypeDesc} (hi:P.info? t=some i) (hd:P.underlying t=some dsc) (hn:i.size=ks.length) (h1:isAgg? P t=false→ks.length=1)
  (hc:sN ks ((xs.drop off).take ks.length) ((ys.drop off).take ks.length)) (w:World) {α:Type} (K:Bool→Sem α) :
  ((do K (← Op.equalIn D t (← part t xs.toArray off) (← part t ys.toArray off))):Sem α).run P w=(K (eqvL ((xs.drop off).take ks.length) ((ys.drop off).take ks.length))).run P w:=by
 obtain ⟨l1,l2⟩:=hc.len
 rw [List.length_take,List.length_drop] at l1 l2
 cases hk:ks.length with
 |zero=>
  have:i.size=0:=by omega
  cases ha:isAgg? P t with
  |false=>have:=h1 ha;omega
  |true=>
   have run0:∀ cs:List Value,(part t cs.toArray off).run P w=.ok (vY P t []) w:=by
    intro cs
    unfold part vY
    rw [Sem.run_bind,kf hd,ha]
    simp only [Result.andThen_ok,if_true,Sem.run_bind,Eng.run_sizeOf hi,Sem.run_pure,this]
    congr 2
    apply Array.ext'
    simp [List.extract]
   rw [hk] at hc
   simp only [Sem.run_bind,run0,Result.andThen_ok]
   rw [hE [] [] hc]
   rfl
 |succ n=>
  rw [←hk]
  simp only [Sem.run_bind,Ai (cs:=xs) (off:=off) hi hd hn (by omega) h1 w,Ai (cs:=ys) (off:=off) hi hd hn (by omega) h1 w,Result.andThen_ok]
  rw [hE _ _ hc]
  rfl
theorem yx {d D:Nat} (hE:∀ t ks,vX P d t=some ks→EqOk P D t ks) {xs ys:List Value}:∀ (fs:List Field) (off:Nat) (ks:List Bool),Ah (yQ P) (vX P d) fs off=some ks→sN ks (xs.drop off) (ys.drop off)→
  ∀ w,(Op.eqFields D xs.toArray ys.toArray fs).run P w=.ok (eqvL (xs.drop off) (ys.drop off)) w
 | [],off,ks,h,hc=>by
  cases h
  intro w
  have h0:=hc.len
  rw [List.eq_nil_of_length_eq_zero h0.1]
  simp [Op.eqFields,eqvL]
 |fd::fs,off,ks,h,hc=>by
  unfold Ah at h
  split at h
  rotate_left
  ·cases h
  rename_i ks1 hm
  split at h
  rotate_left
  ·cases h
  rename_i hb
  split at h
  rotate_left
  ·cases h
  rename_i ks2 hr
  cases h
  simp only [Bool.and_eq_true,bne_iff_ne,ne_eq] at hb
  obtain ⟨hnm,ho,hs⟩:=hb
  have ho:fd.offset=off:=Nat.eq_of_beq_eq_true ho
  have hs:yQ P fd.type=ks1.length:=Nat.eq_of_beq_eq_true hs
  obtain ⟨c1,c2,c3⟩:=hc.split
  rw [List.drop_drop,List.drop_drop] at c2 c3
  have ih:=yx hE fs (off+ks1.length) ks2 hr c2
  intro w
  obtain ⟨i,dsc,hi,hd⟩:=yw hm
  have hsz:i.size=ks1.length:=by unfold yQ at hs;rw [hi] at hs;exact hs
  unfold Op.eqFields
  rw [if_pos (by simpa using hnm),ho]
  have:=CN (K:=λr=>if (!r)=true then pure false else Op.eqFields D xs.toArray ys.toArray fs) (hE _ _ hm) hi hd hsz (vr hm) c1 w
  refine Eq.trans this ?_
  rw [c3]
  cases hq:eqvL ((xs.drop off).take ks1.length) ((ys.drop off).take ks1.length) with
  |false=>rfl
  |true=>
   simp only [Bool.not_true,Bool.false_eq_true,if_false,Bool.true_and]
   exact ih w
theorem Aj {D:Nat} {e:TypeId} {ks:List Bool} (hE:EqOk P D e ks) {i:TypeInfo} {dsc:TypeDesc} (hi:P.info? e=some i) (hd:P.underlying e=some dsc) (hn:i.size=ks.length) (h1:isAgg? P e=false→ks.length=1) {xs ys:List Value} (w:World) :
  ∀ (l:List Nat) (a:Nat),l=List.range' a l.length→sN (List.replicate l.length ks).flatten (xs.drop (a * ks.length)) (ys.drop (a * ks.length))→
   (forIn l ((none,()):Option Bool×Unit) (λi _=>do
    let r ← Op.equalIn D e (← part e xs.toArray (i * ks.length)) (← part e ys.toArray (i * ks.length))
    if (!r)=true then pure (ForInStep.done (some false,())) else pure (ForInStep.yield (none,()))):Sem (Option Bool×Unit)).run P w=.ok ((if eqvL (xs.drop (a * ks.length)) (ys.drop (a * ks.length))=true then none else some false),()) w
 | [],a,_,hc=>by
  have h0:=hc.len
  rw [List.eq_nil_of_length_eq_zero h0.1]
  simp [eqvL]
 |j::l,a,hr,hc=>by
  rw [List.length_cons,List.range'_succ] at hr
  simp only [List.cons.injEq] at hr
  obtain ⟨rfl,hr⟩:=hr
  rw [List.length_cons,List.replicate_succ,List.flatten_cons] at hc
  obtain ⟨c1,c2,c3⟩:=hc.split
  rw [List.drop_drop,List.drop_drop,←Nat.succ_mul] at c2 c3
  rw [List.forIn_cons,Sem.run_bind]
  have:=CN (K:=λr=>if (!r)=true then (pure (ForInStep.done (some false,())):Sem (ForInStep (Option Bool×Unit))) else pure (ForInStep.yield (none,()))) hE hi hd hn h1 c1 w
  rw [this,c3]
  have ih:=Aj hE hi hd hn h1 w l (j+1) hr c2
  cases hq:eqvL ((xs.drop (j * ks.length)).take ks.length) ((ys.drop (j * ks.length)).take ks.length) with
  |false=>rfl
  |true=>
   simp only [Bool.not_true,Bool.false_eq_true,if_false,Bool.true_and]
   exact ih
theorem CO:∀ (d:Nat) (t:TypeId) (ks:List Bool),vX P d t=some ks→∀ D,d≤D→EqOk P D t ks
 | 0,_,_,h=>by cases h
 |d+1,t,ks,h=>by
  intro D hD xs ys hc w
  obtain ⟨D,rfl⟩:∃ D',D=D'+1:=⟨D - 1,by omega⟩
  have hD':d≤D:=by omega
  unfold vX at h
  split at h
  ·rename_i k hu
   cases h
   have ha:isAgg? P t=false:=by unfold isAgg?;rw [hu]
   obtain ⟨x,y,rfl,rfl,hxy⟩:=CM hc
   unfold vY
   rw [ha]
   cases x<;>cases y<;>first | exact hxy.elim | skip
   have hk:_=_:=hxy
   subst hk
   refine (run_equalIn_int w D t _ k _ _ hu).trans ?_
   simp [eqvL,eqv1]
  ·rename_i hu
   cases h
   have ha:isAgg? P t=false:=by unfold isAgg?;rw [hu]
   obtain ⟨x,y,rfl,rfl,hxy⟩:=CM hc
   unfold vY
   rw [ha]
   cases x<;>cases y<;>first | exact hxy.elim | skip
   refine (run_equalIn_bool' w D t _ _ hu).trans ?_
   simp [eqvL,eqv1]
  ·rename_i fs hu
   split at h
   ·cases h
   rename_i hst
   have ha:isAgg? P t=true:=by unfold isAgg?;rw [hu]
   have hf:P.fieldsOf t=fs:=by unfold Program.fieldsOf;rw [hu]
   have:=yx (λt ks h=>CO d t ks h D hD') fs.toList 0 ks h hc w
   unfold vY
   rw [if_pos ha,if_pos ha,run_equalIn_struct w D t _ _ (by rw [hf];exact hu) hst,hf]
   exact this
  ·rename_i len e hu
   split at h
   rotate_left
   ·cases h
   rename_i ks1 hm
   split at h
   rotate_left
   ·cases h
   rename_i hs
   cases h
   have hs:yQ P e=ks1.length:=Nat.eq_of_beq_eq_true hs
   obtain ⟨i,dsc,hi,hd⟩:=yw hm
   have hsz:i.size=ks1.length:=by unfold yQ at hs;rw [hi] at hs;exact hs
   have ha:isAgg? P t=true:=by unfold isAgg?;rw [hu]
   have:=Aj (CO d e ks1 hm D hD') hi hd hsz (vr hm) (xs:=xs) (ys:=ys) w (List.range' 0 len) 0 (by simp) (by simpa using hc)
   unfold vY
   rw [if_pos ha,if_pos ha]
   simp only [Op.equalIn,Sem.run_bind,run_underlying hu,Result.andThen_ok,Eng.run_sizeOf hi,hsz]
   simp only [Nat.zero_mul,List.drop_zero] at this
   rw [Std.Legacy.Range.forIn_eq_forIn_range']
   simp only [Std.Legacy.Range.size,Nat.sub_zero,Nat.add_one_sub_one,Nat.div_one]
   rw [this]
   cases eqvL xs ys<;>rfl
  ·cases h
end
end Go.Mx
namespace Go.Proofs.YtegepanmkjemjaaGreat
open Go.Proofs.Tryz
open Go.Eng C12
theorem F8:Go.Mx.vX prog 8 TPg=some [false,false,false,false,false,false,false,false,false]:=by kernel_rfl
theorem Hq:isAgg? prog TPg=true:=by kernel_rfl
theorem En:Program.eqGuardType prog (Program.depth prog) TPg=false:=by kernel_rfl
theorem zq (l:List aD) (p:aD):(dF (l++[p])).flatten=(dF l).flatten++p.cells:=by simp [dF]
theorem zr {u:World} {a:Option Addr} {n cap:Nat} {L:List aD} (ho:Owns u TPg 9 a n cap (dF L).flatten) {p:aD} (hb1:n≤1000000) {K:Nat→Option Addr→Nat→Nat→World→Prop}
  (hk:∀ b ap cap' w3,b=u.heap.size→Owns w3 TPg 9 ap (n+1) cap' (dF (L++[p])).flatten→Keep (isB a) u w3→(∀ k,isB ap k→isB a k∨u.heap.size≤k)→K b ap (n+1) cap' w3) :
  ∀ b1 w2,b1=u.heap.size→w2=u.alloc (.cells p.cells.toArray TPg)→∃ (ap:Option Addr) (ap_len ap_cap:Nat),∃ w3,(Builtin.append_ #[32,32] 32 #[(.slice a n cap),(.slice (some ⟨b1,0,none⟩) 1 1)]).run prog w2=.ok (.slice ap ap_len ap_cap) w3∧K b1 ap ap_len ap_cap w3:=by
 obtain ⟨inf,hi,hz,hsz,hby⟩:=jQ (T:=TPg) (z:=.agg #[.int .i64 0,.int .u64 0,.int .u64 0,.int .u64 0,.int .u64 0,.int .u64 0,.int .u64 0,.int .u64 0,.int .u64 0]) (n:=9) (m:=72) (by kernel_rfl)
 rw [←hsz] at ho
 refine push_k Tryz.underlying32 hi hz (by rw [hsz];rfl) (by omega) ho (by rw [hsz];rfl) (aD.single p) (by omega) (by omega) ?_
 intro b ap cap' w3 h1 h2
 rw [hsz,←zq] at h2
 exact hk b ap cap' w3 h1 h2
theorem yy (w:World) (c:Int):Does 42 [.int .i64 c] w λv w'=>v=.bool (decide (0≤c∧c<6))∧w'=w:=by
 refine does Tryz.func42 ?_
 rw [qJ]
 refine aI (λh=>⟨?_,rfl⟩) (λh=>⟨?_,rfl⟩)
 ·have h:0≤c:=h
  congr 1;simp [h]
 ·have h:¬ 0≤c:=h
  congr 1;simp [h]
theorem F9 (w:World) {i:Nat} (hi:i<6):Does 20 [.int .i64 i] w λv w'=>v=.int .i64 (32+i:Nat)∧w'=w:=by
 refine does Tryz.func20 ?_
 rw [ry]
 refine aG (yy w (i:Int)) ?_
 rintro v u ⟨rfl,rfl⟩
 refine ⟨_,rfl,eC (by simp;omega) ⟨?_,rfl⟩⟩
 rw [w64 (by omega) (by omega)]
 congr 1
structure EqX (X:FabX) (n lines:Nat):Prop where
 len:X.nodes.length=n
 eq:∀ (i:Nat) (x x0:ep),X.nodes[i]?=some x→X.nodes[0]?=some x0→EqN x0.n x.n lines
 long:∀ (i:Nat) (x:ep),X.nodes[i]?=some x→lines * 8≤x.n.words.length
 few:lines≤256
 many:98≤lines
theorem Ga {X:FabX} {i:Nat} {x:ep} (h:X.nodes[i]?=some x):oh X.pure i=x.n:=by
 simp [oh,FabX.pure,List.getD_eq_getElem?_getD,h]
def zT:aC:=⟨0,0,⟨0⟩,⟨0,0,0,0,0⟩,⟨0,0,0,⟨0,none,0,0⟩,none,0,0,none,0,0⟩,none,0,0,false,false,0,⟨0,none,0,0⟩,0,none,0,0,0,0⟩
def Ak (c seq lines:Int) (rv:aQ) (wa:Option Addr) (wl wc:Nat):aC:=
 ⟨3,c,⟨0⟩,⟨0,0,0,0,0⟩,⟨c,seq,lines,rv,none,0,0,wa,wl,wc⟩,none,0,0,false,false,0,⟨0,none,0,0⟩,0,none,0,0,0,0⟩
set_option maxRecDepth 20000 in
set_option maxHeartbeats 2000000 in
theorem Bk {A:Nat→Prop} {χ:Nat→Tag} {w:World} {fb:Nat} {X:FabX} (h:aZ A χ w fb X) {p:Nat} {lines:Int} {rv:aQ} (hp:Blk w p (fofC fb lines rv) TFo) {x:ep} (hx:X.nodes[0]?=some x) (hd:x.n.down=false)
  {L:List Nat} (hL:∀ l ∈ L,96≤l∧l<256∧l * 8+8≤x.n.words.length) (hlen:L.length≤1000) {a:Option Addr} {cc:Nat} (hr:Rd w a (is (ns L))) (c seq:Int) :
  Does 21 [ptr p,.int .i64 c,.int .i64 seq,.slice a L.length cc] w λv u=>∃ wa wc,v=.tuple #[(Ak c seq lines rv wa L.length wc).val,.bool true]∧New w u∧Owns u TPg 9 wa L.length wc (dF (cws c x.n L)).flatten∧∀ k,isB wa k→w.heap.size≤k:=by
 refine does Tryz.func21 ?_
 rw [ptr,oM]
 rintro b1 w1 hb1 hw1
 obtain ⟨hz1,hn1⟩:=aO hb1 hw1
 have hz1:Blk w1 b1 zT.cells 49:=hz1
 clear hw1
 rintro w2 hw2
 have hn2:New w w2:=by rw [hw2];exact hn1.new (aW _)
 have hz12:Blk w2 b1 zT.cells 49:=by rw [hw2];exact New.blk (aW _) hz1
 clear hw2
 refine ⟨λy=>New w2 y,Keep.refl _ _,lines,λu hu=>(New.blk (hn2.new hu) hp).cell (i:=1) rfl,aQ.mk_ex rv ⟨λu hu=>aK (New.blk (hn2.new hu) hp) (o:=2) rfl,?_⟩⟩
 rintro b2 w3 hb2 hw3
 obtain ⟨hz3,hn3⟩:=aO hb2 hw3
 have hl1:=hz12.lt
 have hs2:=hn2.size
 have hz13:=New.blk hn3 hz12
 clear hw3
 refine ⟨hn3,?_⟩
 refine g8 (vs:=aM.cells ⟨c,seq,lines,rv,none,0,0,none,0,0⟩) hz3 rfl (aM.single ⟨c,seq,lines,rv,none,0,0,none,0,0⟩) λw4 hz4 hk4=>?_
 have hz14:=hk4.blk hz13 (by omega)
 have hn4:New w w4:=(hn2.new hn3).trans hk4 λk hlt e=>by omega
 clear hz1 hz12 hz13 hz3 hk4
 refine aR mix (λq env z=>∃ (i:Nat) (wa:Option Addr) (wc:Nat) (jj:List Value),q=L.length - i∧i≤L.length∧env=cU ⟨p,0,none⟩ c a L.length cc ⟨b1,0,none⟩ ⟨b2,0,none⟩ i jj∧New w z∧Blk z b1 zT.cells 49∧Blk z b2 (aM.cells ⟨c,seq,lines,rv,none,0,0,wa,i,wc⟩) 34∧Owns z TPg 9 wa i wc (dF (cws c x.n (L.take i))).flatten∧∀ k,isB wa k→b2<k) L.length
  ⟨0,none,0,_,rfl,by omega,rfl,hn4,hz14,hz4,Owns.nil _ _ _,λk hk=>(lu hk).elim⟩ ?_
 clear hz14 hz4
 rintro q env z ⟨i,wa,wc,jj,rfl,hi,rfl,hn,hz1,hz2,hown,hfr⟩
 rw [jT]
 refine aI (λhlt=>?_) (λhge=>?_)
 ·have hlt':i<L.length:=by omega
  obtain ⟨hl0,hl2,hl3⟩:=hL L[i] (List.getElem_mem hlt')
  have hg:(ns L)[i]?=some (L[i]:Int):=by simp [ns,hlt']
  have htk:cws c x.n (L.take (i+1))=cws c x.n (L.take i)++[bump c (x.n.page L[i])]:=by
   unfold cws
   rw [List.take_succ_eq_append_getElem hlt',List.map_append]
   rfl
  generalize L[i]=l at hl0 hl2 hl3 hg htk
  rintro u1 hu1
  have hn1:New z u1:=by rw [hu1];exact aW _
  clear hu1
  refine ⟨λy=>New u1 y,Keep.refl _ _,_,λu hu=>(New.blk ((hn.new hn1).new hu) hp).cell (i:=0) rfl,?_⟩
  refine rd_i ((hr.new hn).new hn1) hg rfl (by simp [ns]) λb o hc=>⟨_,λu hu=>hc u hu,?_,?_⟩
  ·refine aG (zZ (h.new (hn.new hn1)) hx (l:=l) (by omega) (by omega) hd) ?_
   rintro v u2 ⟨rfl,hn2⟩
   refine aD.mk_ex (x.n.page l) ⟨true,rfl,hn2,?_⟩
   rintro b3 u3 hb3 hu3
   obtain ⟨hzb,hnb⟩:=aO hb3 hu3
   clear hu3
   refine ⟨hn2.new hnb,?_⟩
   refine g8 (vs:=(x.n.page l).cells) hzb rfl (aD.single _) λu4 hz hk4=>?_
   have hn4:New z u4:=((hn1.new hn2).new hnb).trans hk4 λk hlt e=>by have:=(hn1.new hn2).size;omega
   have hb3':z.heap.size≤b3:=by have:=(hn1.new hn2).size;omega
   clear hzb hnb hk4
   refine eC rfl ⟨_,hz.cell (i:=1) rfl,?_⟩
   refine mb hz (o:=1) (by simp [aD.cells]) λu5 hz5 hk5=>?_
   refine eG (by omega) (by omega) ⟨_,hz5.cell (i:=2) rfl,?_⟩
   refine eG (by omega) (by omega) ?_
   refine mb hz5 (o:=2) (by simp [aD.cells]) λu6 hz6 hk6=>?_
   refine eG (by omega) (by omega) ?_
   refine mb hz6 (o:=3) (by simp [aD.cells]) λu7 hz7 hk7=>?_
   have hz7:Blk u7 b3 (bump c (x.n.page l)).cells TPg:=hz7
   have hn7:New z u7:=hn4.trans ((hk5.trans hk6 λ_ _ h=>h).trans hk7 λ_ _ h=>h) λk hlt e=>by omega
   have hz17:=New.blk hn7 hz1
   have hz27:=New.blk hn7 hz2
   refine ⟨_,_,_,hz27.cell (i:=6) rfl,?_⟩
   refine aD.mk_ex (bump c (x.n.page l)) ⟨aK hz7 rfl,?_⟩
   refine zr (hown.new hn7) (by omega) ?_
   intro b4 ap cap u8 hb4 ho8 hk8 hap
   have hz18:=hk8.blk hz17 (λe=>by have:=hfr b1 e;omega)
   have hz28:=hk8.blk hz27 (λe=>by have:=hfr b2 e;omega)
   have hl2':=hz2.lt
   have hs7:=hn7.size
   have hsw:=hn.size
   have hfr8:∀ k,isB ap k→b2<k:=λk hk=>by
    rcases hap k hk with h1 | h1
    ·exact hfr k h1
    ·omega
   refine mb (b:=b2) hz28 (o:=6) (by simp [aM.cells]) λu9 hz9 hk9=>?_
   rw [w64 (x:=(i:Int)+1) (by omega) (by omega)]
   have hn8:New w u8:=ma (hn.new hn7) hk8 λk hk=>by have:=hfr k hk;omega
   exact ⟨L.length - (i+1),by omega,i+1,ap,cap,_,rfl,by omega,rfl,hn8.trans hk9 λk hlt e=>by omega,hk9.blk hz18 (by omega),hz9,by rw [htk];exact ho8.keep hk9 λk hk e=>by have:=hfr8 k hk;omega,hfr8⟩
  ·rintro b3 u3 hb3 hu3
   obtain ⟨hzb,hnb⟩:=aO hb3 hu3
   clear hu3
   refine ⟨hnb,?_⟩
   refine aG (zZ (h.new ((hn.new hn1).new hnb)) hx (l:=l) (by omega) (by omega) hd) ?_
   rintro v u2 ⟨rfl,hn2⟩
   refine aD.mk_ex (x.n.page l) ⟨true,rfl,?_⟩
   refine g8 (vs:=(x.n.page l).cells) (New.blk hn2 hzb) rfl (aD.single _) λu4 hz hk4=>?_
   have hb3':z.heap.size≤b3:=by have:=hn1.size;omega
   have hn4:New z u4:=((hn1.new hnb).new hn2).trans hk4 λk hlt e=>by omega
   clear hzb hnb hk4
   refine eC rfl ⟨_,hz.cell (i:=1) rfl,?_⟩
   refine mb hz (o:=1) (by simp [aD.cells]) λu5 hz5 hk5=>?_
   refine eG (by omega) (by omega) ⟨_,hz5.cell (i:=2) rfl,?_⟩
   refine eG (by omega) (by omega) ?_
   refine mb hz5 (o:=2) (by simp [aD.cells]) λu6 hz6 hk6=>?_
   refine eG (by omega) (by omega) ?_
   refine mb hz6 (o:=3) (by simp [aD.cells]) λu7 hz7 hk7=>?_
   have hz7:Blk u7 b3 (bump c (x.n.page l)).cells TPg:=hz7
   have hn7:New z u7:=hn4.trans ((hk5.trans hk6 λ_ _ h=>h).trans hk7 λ_ _ h=>h) λk hlt e=>by omega
   have hz17:=New.blk hn7 hz1
   have hz27:=New.blk hn7 hz2
   refine ⟨_,_,_,hz27.cell (i:=6) rfl,?_⟩
   refine aD.mk_ex (bump c (x.n.page l)) ⟨aK hz7 rfl,?_⟩
   refine zr (hown.new hn7) (by omega) ?_
   intro b4 ap cap u8 hb4 ho8 hk8 hap
   have hz18:=hk8.blk hz17 (λe=>by have:=hfr b1 e;omega)
   have hz28:=hk8.blk hz27 (λe=>by have:=hfr b2 e;omega)
   have hl2':=hz2.lt
   have hs7:=hn7.size
   have hsw:=hn.size
   have hfr8:∀ k,isB ap k→b2<k:=λk hk=>by
    rcases hap k hk with h1 | h1
    ·exact hfr k h1
    ·omega
   refine mb (b:=b2) hz28 (o:=6) (by simp [aM.cells]) λu9 hz9 hk9=>?_
   rw [w64 (x:=(i:Int)+1) (by omega) (by omega)]
   have hn8:New w u8:=ma (hn.new hn7) hk8 λk hk=>by have:=hfr k hk;omega
   exact ⟨L.length - (i+1),by omega,i+1,ap,cap,_,rfl,by omega,rfl,hn8.trans hk9 λk hlt e=>by omega,hk9.blk hz18 (by omega),hz9,by rw [htk];exact ho8.keep hk9 λk hk e=>by have:=hfr8 k hk;omega,hfr8⟩
 ·have hie:i=L.length:=by omega
  subst hie
  rw [lw]
  rw [List.take_length] at hown
  refine aM.mk_ex ⟨c,seq,lines,rv,none,0,0,wa,L.length,wc⟩ ⟨aK hz2 rfl,?_⟩
  refine g8 (vs:=(Ak c seq lines rv wa L.length wc).cells) hz1 rfl (aC.single _) λu1 hz hk=>?_
  refine aC.mk_ex (Ak c seq lines rv wa L.length wc) ⟨aK hz rfl,rfl,wa,wc,rfl,hn.trans hk λk hlt e=>by omega,hown.keep hk λk hk' e=>by have:=hfr k hk';omega,λk hk'=>by have:=hfr k hk';omega⟩
end Go.Proofs.YtegepanmkjemjaaGreat
