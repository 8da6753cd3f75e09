import Derived.Test.YtegepanmkjemjaaGreatv43
import Derived.Test.YtegepanmkjemjaaGreatv02
import Derived.Test.YtegepanmkjemjaaGreatRows
import Derived.WalkKit
import Derived.ProofKit
import Derived.OpenShut
import Derived.Deep.Slices
set_option linter.unusedVariables false
namespace Go.Proofs.YtegepanmkjemjaaGreat
open Go.Proofs.Tryz
open Go.Eng C12
attribute [local irreducible] drive
set_option maxHeartbeats 2000000 in
theorem E6 {w w3 u:World} {n fb p b1 b2:Nat} {A:Nat→Prop} {χ:Nat→Tag} {rv:aM} {T:Nat} {B:Nat→Prop} {ξ:Nat→Tag} {X:FabX} {base:Nat→Nat→Int} {bc:Nat→Int} {c:Nat→Nat} {sq:Nat→Int} (h:CoS w w3 u n fb p b1 b2 A χ rv T B ξ X base bc c sq) (jj:List Value) {QX:Exit→List Value→World→Prop} :
  W prog (sub (aD fCO) [1,1,1,1,1,1,1]) (dV (some ⟨p,0,none⟩) ⟨b1,0,none⟩ jj) (Qr prog fCO (RP w) QX) u:=by
 rw [jm]
 have hn:=h.nn
 refine aQ mix (λq env z=>∃ (k:Nat) (jj:List Value),q=4 - k∧k≤4∧env=cM (some ⟨p,0,none⟩) ⟨b1,0,none⟩ k jj∧New u z) 4 ⟨0,_,by omega,by omega,rfl,Keep.refl _ _⟩ ?_
 rintro q env z ⟨k,jj2,rfl,hk,rfl,hz⟩
 refine kD (P:=prog) (fn:=fCO) (R:=RP w) (λ_ _=>rfl) ?_
 rw [ie]
 have h1:=h.law.noop hz
 have hst:=h.still
 have hlen:X.pure.nodes.length=n:=hst.len
 obtain ⟨x,hx,hxm⟩:=EU (X:=X) rfl (i:=0) (by omega)
 have hxp:X.pure.nodes[0]?=some x.n:=by simp [FabX.pure,hx]
 have hfx:NFix 100 x.n:=hst.fix 0 _ hxp
 refine aH (λhlt=>?_) (λhge=>?_)
 ·have hlt:k<4:=by omega
  refine ⟨some ⟨fb,0,none⟩,h1.box.cell (i:=0) rfl,?_⟩
  rw [w64 (x:=96+(k:Int)) (by omega) (by omega)]
  have e96:(96+(k:Int))=((96+k:Nat):Int):=by omega
  rw [e96]
  refine aF (ub h1.tw.fab hx (l:=96+k) (by omega) (by rw [hfx.len];omega) hfx.up) ?_
  rintro v z1 ⟨rfl,hz1⟩
  have hpg:x.n.page (96+k)=pgOf base (96+k):=hst.page hxp (by omega) (by omega)
  have hdt:=h.cnt.data (96+k) (by omega) (by omega)
  refine aG.mk_ex (x.n.page (96+k)) ⟨true,rfl,?_⟩
  refine iR (vs:=(x.n.page (96+k)).cells) rfl (aG.single _) λb2 z2 hb2 hbz hz2=>?_
  rw [ig]
  refine kD (P:=prog) (fn:=fCO) (R:=RP w) (λ_ _=>rfl) ?_
  rw [jr]
  rintro z3 hz3'
  have hz3:New z2 z3:=by rw [hz3'];exact aT _
  clear hz3'
  have hbz3:∀ y,New z3 y→Blk y b2 (x.n.page (96+k)).cells TPg:=λy hy=>New.blk (hz3.new hy) hbz
  have hcb:∀ y,New z3 y→Blk y b1 (kY λq=>c (96+q)) T4u:=λy hy=>New.blk ((((hz.new hz1).new hz2).new hz3).new hy) h.k1
  have e1:0+((k:Nat):Int).toNat * 1=k:=by simp
  have hcell:∀ y,New z3 y→y.cell? ⟨b1,0+((k:Nat):Int).toNat * 1,none⟩=some (.int .u64 (c (96+k):Nat)):=λy hy=>by
   rw [e1]
   exact (hcb y hy).cell (um (f:=λq=>c (96+q)) hlt)
  have hd0:(x.n.page (96+k)).Data0=(c (96+k):Nat):=by
   rw [hpg]
   exact hdt
  refine ⟨λy=>New z3 y,Keep.refl _ _,dZ rfl (fW (by omega) (by omega) ⟨_,λy hy=>(hbz3 y hy).cell (i:=2) rfl,fW (by omega) (by omega) ⟨_,hcell,jT ?_⟩⟩)⟩
  refine kD (P:=prog) (fn:=fCO) (R:=RP w) (λ_ _=>rfl) ?_
  rw [iJ]
  refine cQ (λhh=>absurd hd0 hh) λ_=>?_
  refine pO (jT ?_)
  refine kD (P:=prog) (fn:=fCO) (R:=RP w) (λ_ _=>rfl) ?_
  rw [iK]
  rw [w64 (x:=(k:Int)+1) (by omega) (by omega)]
  exact ⟨4 - (k+1),by omega,k+1,_,rfl,by omega,rfl,((hz.new hz1).new hz2).new hz3⟩
 ·refine si (mC (jT ?_))
  refine kD (P:=prog) (fn:=fCO) (R:=RP w) (λ_ _=>rfl) ?_
  rw [jt]
  rintro z1 hz1'
  have hz1:New z z1:=by rw [hz1'];exact aT _
  clear hz1'
  have h1':=h1.noop hz1
  have hbx:∀ y,New z1 y→Blk y p (fofC fb 100 rv) TFo:=λy hy=>New.blk hy h1'.box
  have heq:EqX X n 100:=hst.eqX (by omega) λl l1 l2=>by
   have:=h.cnt.head l l1 l2
   omega
  have hv:=h1'.view
  refine ⟨λy=>New z1 y,Keep.refl _ _,some ⟨fb,0,none⟩,λy hy=>(hbx y hy).cell (i:=0) rfl,rv.Members,rv.Members_l,rv.Members_c,λy hy=>(hbx y hy).cell (i:=3) rfl,100,λy hy=>(hbx y hy).cell (i:=1) rfl,?_⟩
  have hml:rv.Members_l=n:=hv.len.trans (mE n)
  rw [hml]
  refine aF (EQ h1'.tw.fab heq (a:=rv.Members) (mc:=rv.Members_c) hv.rd hn.2) ?_
  rintro v z2 ⟨rfl,hz2⟩
  exact ⟨_,rfl,rfl,h1'.new.new hz2⟩
set_option maxRecDepth 20000 in
set_option maxHeartbeats 4000000 in
theorem GE {w w3 z0:World} {n fb p b1 b2:Nat} {A:Nat→Prop} {χ:Nat→Tag} {rv:aM} {B:Nat→Prop} {ξ:Nat→Tag} {X:FabX} {base:Nat→Nat→Int} {bc:Nat→Int} {c:Nat→Nat} {sq:Nat→Int} (h:CoS w w3 z0 n fb p b1 b2 A χ rv 0 B ξ X base bc c sq)
  {a1 a2:Option Addr} {c1 c2:Nat} {x3:Int} (h3:I64 x3) {raw sch:List Int} (hr:Rd w a1 (is raw)) (hri:∀ x ∈ raw,I64 x) (hl3:raw.length≤3) (hs:Rd w a2 (is sch)) (hsi:∀ x ∈ sch,I64 x) (jj:List Value) {QX:Exit→List Value→World→Prop} :
  bX prog (.loop (sub (aD fCO) [1,1,1,1,1,1,0,1,0,0])) (bR a1 raw.length c1 a2 sch.length c2 x3 (some ⟨p,0,none⟩) ⟨b1,0,none⟩ ⟨b2,0,none⟩ 0 jj) (aI 0 (seqQ (λenv z=>W prog (sub (aD fCO) [1,1,1,1,1,1,1]) env (Qr prog fCO (RP w) QX) z) (Qr prog fCO (RP w) QX))) z0:=by
 refine aQ mix (λq env z=>∃ (r T:Nat) (B:Nat→Prop) (ξ:Nat→Tag) (X:FabX) (base:Nat→Nat→Int) (bc:Nat→Int) (c:Nat→Nat) (sq:Nat→Int) (jj:List Value),q=4 - r∧r≤4∧T≤7 * r∧env=bR a1 raw.length c1 a2 sch.length c2 x3 (some ⟨p,0,none⟩) ⟨b1,0,none⟩ ⟨b2,0,none⟩ r jj∧CoS w w3 z n fb p b1 b2 A χ rv T B ξ X base bc c sq) 4
  ⟨0,0,B,ξ,X,base,bc,c,sq,_,rfl,by omega,by omega,rfl,h⟩ ?_
 clear h
 rintro q env z ⟨r,T,B,ξ,X,base,bc,c,sq,jj2,rfl,hr4,hT,rfl,h⟩
 refine kD (P:=prog) (fn:=fCO) (R:=RP w) (λ_ _=>rfl) ?_
 rw [ib]
 refine aF (nv _ _ _ h3 (by omega)) ?_
 rintro v u1 ⟨rfl,hu1⟩
 obtain rfl:z=u1:=hu1.symm
 rw [if_neg (by omega)]
 refine ⟨_,rfl,?_⟩
 rw [w64 (x:=x3 % 4+1) (by omega) (by omega)]
 refine aH (λhlt=>?_) (λhge=>?_)
 ·have hlt:r<4:=by omega
  obtain ⟨inf,hi,hz,hsz,hby⟩:=jD (T:=3) (z:=.int .i64 0) (n:=1) (m:=8) (by kernel_rfl)
  have hon:Owns z 3 inf.size none 0 0 []:=Owns.nil _ _ _
  have hrl:(is raw).length=raw.length:=List.length_map _
  obtain ⟨ap,apc,w1,hrun,hown,hk1,hap⟩:=Owns.append (P:=prog) (t:=22) (ty:=22) Tryz.underlying22 hi hz (by rw [hsz];rfl) (by omega) hon (s:=a1) (m:=raw.length) (c:=c1) (news:=is raw) (by rw [hsz,hrl];omega) (hr.new h.law.new) (λv hv=>by obtain ⟨x,_,rfl⟩:=List.mem_map.1 hv;rfl) (by omega) (by rw [hby];omega)
  rw [Nat.zero_add,List.nil_append,hsz] at hown
  rw [Nat.zero_add] at hrun
  have hn1:New z w1:=hk1.mono λk _ hb=>by obtain ⟨o,ho⟩:=hb;cases ho
  have hfr1:∀ k,isB ap k→z.heap.size≤k:=λk hk=>by
   rcases hap with e | e
   ·rw [e] at hk;obtain ⟨o,ho⟩:=hk;cases ho
   ·rw [e] at hk;obtain ⟨o,ho⟩:=hk;simp at ho <;> omega
  refine ⟨ap,raw.length,apc,w1,hrun,?_⟩
  have h':CoS w w3 w1 n fb p b1 b2 A χ rv T B ξ X base bc c sq:=⟨h.law.noop hn1,h.still,h.cnt,New.blk hn1 h.k1,New.blk hn1 h.k2,h.ne,h.few,h.seq,h.nn,h.TT⟩
  refine GD h' ⟨hown.rd,hri,λk hk hB=>by have:=hfr1 k hk;have:=h.law.low hB;omega⟩ hl3 (by omega) hs hsi _ (λ_ _=>rfl) λjj z' T' B' ξ' X' base' bc' c' sq' hS' hT'=>?_
  refine pO (jT ?_)
  refine kD (P:=prog) (fn:=fCO) (R:=RP w) (λ_ _=>rfl) ?_
  rw [jo]
  rw [w64 (x:=(r:Int)+1) (by omega) (by omega)]
  exact ⟨4 - (r+1),by omega,r+1,T',B',ξ',X',base',bc',c',sq',_,rfl,by omega,by omega,rfl,hS'⟩
 ·exact si (mC (jT (E6 h _)))
end Go.Proofs.YtegepanmkjemjaaGreat
namespace Go.Proofs.YtegepanmkjemjaaGreat
open Go.Proofs.Tryz
open Go.Eng C12
attribute [local irreducible] drive
set_option maxRecDepth 20000 in
set_option maxHeartbeats 4000000 in
theorem tt (w:World) {x0 x3:Int} {p1 p2:Option Addr} {c1 c2:Nat} {raw sch:List Int} (h0:I64 x0) (h3:I64 x3) (hr:Rd w p1 (is raw)) (hri:∀ x ∈ raw,I64 x) (hs:Rd w p2 (is sch)) (hi:∀ x ∈ sch,I64 x) :
  Does 5 [.int .i64 x0,.slice p1 raw.length c1,.slice p2 sch.length c2,.int .i64 x3] w (RP w):=by
 refine does Tryz.func5 ?_
 rw [k9]
 have hskip:∀ (b:Bool) (jj:List Value),(b=false→raw.length≤3)→W prog (sub (aD fCO) [1,0,1]) (bQ x0 p1 raw.length c1 p2 sch.length c2 x3 b jj) (seqQ (λenv z=>W prog (sub (aD fCO) [1,1]) env (retQ prog fCO (RP w)) z) (retQ prog fCO (RP w))) w:=by
  intro b jj hb
  refine kD (P:=prog) (fn:=fCO) (R:=RP w) (λ_ _=>rfl) ?_
  rw [jd]
  refine sm (λhb1=>⟨rfl,Keep.refl _ _⟩) λhb1=>jT ?_
  have hr3:=hb hb1
  clear hb hb1
  refine kD (P:=prog) (fn:=fCO) (R:=RP w) (λ_ _=>rfl) ?_
  rw [je]
  refine aF (nv _ _ _ h0 (by omega)) ?_
  rintro v u1 ⟨rfl,hu1⟩
  obtain rfl:w=u1:=hu1.symm
  rw [if_neg (by omega)]
  refine ⟨_,rfl,?_⟩
  obtain ⟨n,hn,hn3⟩:∃ n:Nat,x0 % 2+1=n∧1≤n∧n≤2:=⟨(x0 % 2+1).toNat,by omega,by omega⟩
  rw [w64 (x:=x0 % 2+1) (by omega) (by omega),hn]
  refine aF (EM (n:=n) (by omega) (x:=2) ⟨by omega,by omega⟩) ?_
  rintro v w2 ⟨fb,p,A,χ,X,rv,rfl,hm⟩
  have hm:Made _ w2 n 100 fb p A χ X rv:=hm
  have hpure:=hm.pure
  have hm:=hm.law
  refine ⟨_,_,rfl,?_⟩
  rw [ia,gY]
  refine kD (P:=prog) (fn:=fCO) (R:=RP w) (λ_ _=>rfl) ?_
  rw [jh]
  refine dZ rfl ?_
  refine aF (EV _) ?_
  rintro v w3 ⟨rfl,hn3'⟩
  refine ⟨_,rfl,jT ?_⟩
  have hm:=hm.noop hn3'
  clear hn3'
  refine kD (P:=prog) (fn:=fCO) (R:=RP w) (λ_ _=>rfl) ?_
  rw [jk]
  refine dZ rfl (jT ?_)
  refine kD (P:=prog) (fn:=fCO) (R:=RP w) (λ_ _=>rfl) ?_
  rw [jl]
  have hstill:rm n 100 Dj (λ_=>0) X.pure:=by rw [hpure];exact xM (by omega) (by omega) (xO (by omega))
  rintro b1 z1 hb1 hz1
  obtain ⟨hzb1,hn1⟩:=aN hb1 hz1
  rintro b2 z2 hb2 hz2
  obtain ⟨hzb2,hn2⟩:=aN hb2 hz2
  clear hz1 hz2
  have hs1:=hzb1.lt
  have hs2:=hzb2.lt
  have hss:=hn2.size
  refine GE ⟨hm.arrays (hn1.new hn2) ⟨by omega,by omega⟩ ⟨by omega,by omega⟩,hstill,BP,New.blk hn2 hzb1,(show Blk z2 b2 (mY λ_=>0) T4i from hzb2),by omega,λ_ _ _=>by omega,λ_ _=>by omega,by omega,by omega⟩ h3 hr hri hr3 hs hi _
 refine aH (λh=>?_) (λh4=>aH (λh=>?_) (λh1=>?_))
 ·exact hskip true _ λe=>by cases e
 ·exact hskip true _ λe=>by cases e
 ·exact hskip _ _ λ_=>by omega
end Go.Proofs.YtegepanmkjemjaaGreat
namespace Go.Proofs.YtegepanmkjemjaaGreat
open Go.Proofs.Tryz
open Go.ChangeShapes Go.WideShapes Go.ChangeAt Go.RowKit
theorem laid:laidOutB prog=true:=by kernel_rfl
theorem GF:ownKnob prog.godebug=none:=by kernel_rfl
theorem qK {H:Type} {enc:TypeId×Value→H} {W W':World} {sp:Nat→Bool}:∀ {ts:List TypeId} {vs:List Value} {ds:List (DataW H)} {ps:List MemPlace},(∀ t ∈ ts,prog.readableRec t=true∧t<prog.types.size)→DataW.TrodAll enc prog W 0 (λ_=>true) true ts vs ds ps→
  (∀ p ∈ ps,W.sameAt W' p)→(∀ p ∈ ps,sp p.block=true)→DataW.TrodAll enc prog W' 0 sp true ts vs ds ps
 | [],_,_,_,_,h,_,_=>by
  obtain ⟨rfl,rfl,rfl⟩:=trodAll_nil h
  exact trodAll_mk0
 |t::ts,_,_,_,ht,h,hs,hp=>by
  obtain ⟨v,vs1,d,ds1,a,b,rfl,rfl,rfl,h1,h2⟩:=trodAll_cons h
  refine trodAll_cons_mk (WideElems.Trod_stays laid (ht t List.mem_cons_self).1 (ht t List.mem_cons_self).2 h1 (λp hq=>hs p (List.mem_append_left _ hq)) λp hq=>hp p (List.mem_append_left _ hq)) ?_
  exact qK (λt h=>ht t (List.mem_cons_of_mem _ h)) h2 (λp hq=>hs p (List.mem_append_right _ hq)) λp hq=>hp p (List.mem_append_right _ hq)
theorem Dl {H:Type} {enc:TypeId×Value→H} {f:Func} {s:ChangeSpec} {apart:Bool} {W W':World} {args:Array Value} {ds gs:List (DataW H)} {before:List MemPlace} {tb:TypeId} (hW:DataW.Whole enc prog f.params.toList s.vars apart W args.toList ds gs before)
  (hb:Go.Eng.New W W') (hts:∀ t ∈ f.params.toList,prog.readableRec t=true∧t<prog.types.size) (hv:s.vars=[]) (hfn:s.fn H (ds++gs)={ results:=[.lit (.bool true)],args:=ds }) (hr:f.resultTypes=#[tb]) (htb:prog.underlying tb=some .bool) :
  s.post enc prog f apart true false false W args (.bool true) W':=by
 have hB:Go.RowKit.Below W.heap.size W W':=hb.below (Nat.le_refl _) λ_ _ h=>h
 have hlt:=hW.lt
 have hW0:=hW
 obtain ⟨p,q,hA,hV,rfl,hfz,hnd⟩:=hW
 refine ⟨ds,gs,p++q,[],p,[],hW0,?_,?_,?_,hB.frame _,λh=>by cases h⟩
 ·rw [hfn,hr]
  exact trodAll_cons_mk (shut_bool htb _) trodAll_mk0
 ·rw [hfn]
  exact qK hts hA (λx hx=>hB.same (hlt x (List.mem_append_left _ hx))) λx hx=>by simpa using hlt x (List.mem_append_left _ hx)
 ·rw [hfn,hv]
  rfl
theorem BS {n:Int} (h:(Lit.int .i64 n).wf=true):I64 n:=by have:=bounds_i64 h;exact ⟨this.1,by omega⟩
end Go.Proofs.YtegepanmkjemjaaGreat
namespace Go.Proofs.YtegepanmkjemjaaGreat
open Go.ChangeShapes Go.WideShapes Go.ChangeAt Go.RowKit Go.Eng
theorem yF {sz:Nat} (h0:0<sz):∀ {rows:List (List Value)} {j:Nat} {u:Value},(∀ r ∈ rows,r.length=sz)→rows.flatten[j]?=some u→∃ r,rows[j / sz]?=some r∧r[j % sz]?=some u
 | [],j,u,_,h=>by simp at h
 |r::rows,j,u,hr,h=>by
  have hl:=hr r List.mem_cons_self
  rw [List.flatten_cons,List.getElem?_append] at h
  by_cases hj:j<sz
  ·rw [if_pos (by omega)] at h
   exact ⟨r,by rw [Nat.div_eq_of_lt hj];rfl,by rw [Nat.mod_eq_of_lt hj];exact h⟩
  ·rw [if_neg (by omega),hl] at h
   obtain ⟨r',h1,h2⟩:=yF h0 (λr hr'=>hr r (List.mem_cons_of_mem _ hr')) h
   have e1:j / sz=(j - sz) / sz+1:=by
    rw [Nat.div_eq_sub_div h0 (by omega)]
   have e2:j % sz=(j - sz) % sz:=by rw [Nat.mod_eq_sub_mod (by omega)]
   exact ⟨r',by rw [e1];simpa using h1,by rw [e2];exact h2⟩
theorem BT {w:World} {a:Addr} {v:Value} (h:w.cell? a=some v):a.spot=none:=by
 cases hs:a.spot with
 |none=>rfl
 |some s=>
  exfalso
  unfold World.cell? at h
  simp only [hs,Option.isSome_some,if_true] at h
  split at h<;>simp_all
theorem zF {H:Type} {enc:TypeId×Value→H} {P:Program} {W:World} {k fuel:Nat} {t e:TypeId} {cs:List Value} {x:DataW H×List MemPlace} {held:Bool} (ht:P.underlying t=some (.slice e)) (hc:P.cellsOf e=k) (hk:0<k)
  (hf:DataW.trod enc P W 0 (λ_=>true) held fuel t cs=some x):∃ a cap rows,cs=[.slice a (List.length rows) cap]∧rows.length≤cap∧Rd W a rows.flatten∧∀ r ∈ rows,r.length=k∧∃ fuel x,DataW.trod enc P W 0 (λ_=>true) held fuel e r=some x:=by
 rcases Deep.open_slice ht hf with ⟨h1,_⟩ | ⟨ad,len,cap,m,n,D,Pl,h1,_,h3,_,h5,_,h7⟩
 ·exact ⟨none,0,[],h1,Nat.le_refl _,.inl rfl,λx hx=>by cases hx⟩
 ·subst h1
  have hm:len≤m:=by rw [h5];simp;omega
  obtain ⟨f,hf'⟩:=Deep.choose_lt (α:=List Value) (p:=λi cs=>W.cells? 0 (ad.add (i * k)) k=some cs∧DataW.trod enc P W 0 (λ_=>true) held n e cs=some (D i,Pl i)) (n:=m) (λi hi=>by
   obtain ⟨cs,g1,g2⟩:=h7 i hi
   rw [hc] at g1
   exact ⟨cs,g1,g2⟩)
  have hrow:∀ (i:Nat) (r:List Value),((List.range len).map f)[i]?=some r→i<len∧r=f i:=by
   intro i r hr
   have hi:=aP hr
   simp at hi
   simp [hi] at hr
   exact ⟨hi,hr.symm⟩
  have hlens:∀ r ∈ (List.range len).map f,r.length=k:=by
   intro r hr
   obtain ⟨i,hi⟩:=List.mem_iff_getElem?.1 hr
   obtain ⟨hi,rfl⟩:=hrow i r hi
   exact (World.cells?_some (hf' i (by omega)).1).2.1
  refine ⟨some ad,cap,(List.range len).map f,by simp,by simpa using h3,?_,λr hr=>⟨hlens r hr,?_⟩⟩
  ·by_cases h0:len=0
   ·subst h0;exact .inl rfl
   ·have hcell:∀ (i q:Nat) (u:Value),i<len→(f i)[q]?=some u→q<k→W.cell? (ad.add (i * k+q))=some u:=by
     intro i q u hi hq hqk
     have:=(World.cells?_some (hf' i (by omega)).1).2.2 q hqk
     rw [Deep.add_add] at this
     rw [this,hq]
    have hf0:=(World.cells?_some (hf' 0 (by omega)).1).2.1
    have hs:ad.spot=none:=by
     have h8:=hcell 0 0 _ (by omega) (List.getElem?_eq_getElem (by omega)) hk
     have:=BT h8
     simpa [Addr.add] using this
    refine .inr ⟨ad.block,ad.off,by cases ad;simp_all,λj u hu=>?_⟩
    obtain ⟨r,g1,g2⟩:=yF hk hlens hu
    obtain ⟨hi,rfl⟩:=hrow _ _ g1
    have h8:=hcell (j / k) (j % k) u hi g2 (Nat.mod_lt _ hk)
    rw [Nat.mul_comm,Nat.div_add_mod] at h8
    rw [←h8]
    unfold Addr.add
    split
    ·rename_i h0;subst h0;cases ad;simp_all
    ·cases ad;simp_all
  ·obtain ⟨i,hi⟩:=List.mem_iff_getElem?.1 hr
   obtain ⟨hi,rfl⟩:=hrow i r hi
   exact ⟨n,_,(hf' i (by omega)).2⟩
theorem BU {H:Type} {enc:TypeId×Value→H} {P:Program} {W:World} {r:Reach} {b0 k:Nat} {t e:TypeId} {v:Value} {d:DataW H} {ps:List MemPlace} {held:Bool} (ht:P.underlying t=some (.slice e)) (hc:P.cellsOf e=k) (hk:0<k) (hval:Value.okWide P W r b0 t v)
  (hd:DataW.Trod enc P W 0 (λ_=>true) held t v d ps):∃ a cap rows,v=.slice a (List.length rows) cap∧Rd W a rows.flatten∧∀ r ∈ rows,r.length=k∧∃ fuel x,DataW.trod enc P W 0 (λ_=>true) held fuel e r=some x:=by
 obtain ⟨a,len,cap,rfl⟩:=okWide_slice ht hval
 obtain ⟨fuel,hf⟩:=hd
 obtain ⟨a',cap',rows,h1,_,h2,h3⟩:=zF ht hc hk hf
 have h1':[Value.slice a len cap]=[.slice a' rows.length cap']:=h1
 simp at h1'
 obtain ⟨rfl,rfl,rfl⟩:=h1'
 exact ⟨_,_,_,rfl,h2,h3⟩
theorem wT {H:Type} {enc:TypeId×Value→H} {P:Program} {W:World} {r:Reach} {b0:Nat} {t e:TypeId} {v:Value} {d:DataW H} {ps:List MemPlace} {held:Bool} (ht:P.underlying t=some (.slice e)) (he:P.underlying e=some (.int .i64)) (hc:P.cellsOf e=1) (hval:Value.okWide P W r b0 t v)
  (hd:DataW.Trod enc P W 0 (λ_=>true) held t v d ps):∃ a cap xs,v=.slice a (List.length xs) cap∧Rd W a (is xs)∧∀ x ∈ xs,I64 x:=by
 obtain ⟨a,cap,rows,rfl,h1,h2⟩:=BU ht hc (by omega) hval hd
 have hint:∀ r ∈ rows,∃ n,r=[.int .i64 n]∧I64 n:=by
  intro r hr
  obtain ⟨_,fuel,x,hx⟩:=h2 r hr
  obtain ⟨n,e,_,w⟩:=DataW.trod_int he hx
  exact ⟨n,e,BS w⟩
 clear h2
 have key:∀ rows:List (List Value),(∀ r ∈ rows,∃ n,r=[Value.int .i64 n]∧I64 n)→∃ xs:List Int,rows.length=xs.length∧rows.flatten=is xs∧∀ x ∈ xs,I64 x:=by
  intro rows
  induction rows with
  |nil=>intro _;exact ⟨[],rfl,rfl,λx hx=>by cases hx⟩
  |cons r rows ih=>
   intro h
   obtain ⟨n,rfl,hn⟩:=h r List.mem_cons_self
   obtain ⟨xs,g1,g2,g3⟩:=ih λr hr=>h r (List.mem_cons_of_mem _ hr)
   refine ⟨n::xs,by simp [g1],by simp [is,g2],λx hx=>?_⟩
   rcases List.mem_cons.1 hx with rfl | hx
   ·exact hn
   ·exact g3 x hx
 obtain ⟨xs,g1,g2,g3⟩:=key rows hint
 exact ⟨a,cap,xs,by rw [g1],by rw [←g2];exact h1,g3⟩
end Go.Proofs.YtegepanmkjemjaaGreat
namespace Go.Proofs.YtegepanmkjemjaaGreat
open Go.Proofs.Tryz
open Go.ChangeShapes Go.WideShapes Go.ChangeAt Go.RowKit Go.Eng
theorem wU {H:Type} {enc:TypeId×Value→H} {P:Program} {w:World} {base:Nat} {spare:Nat→Bool} {held:Bool} {t t' t'' t3:TypeId} {args:Array Value} {ds:List (DataW H)} {ps:List MemPlace} (h:DataW.TrodAll enc P w base spare held [t,t',t'',t3] args.toList ds ps) :
  ∃ v v' v'' v3 d d' d'' d3 p p' p'' p3,args=#[v,v',v'',v3]∧ds=[d,d',d'',d3]∧ps=p++p'++p''++p3∧DataW.Trod enc P w base spare held t v d p∧DataW.Trod enc P w base spare held t' v' d' p'∧DataW.Trod enc P w base spare held t'' v'' d'' p''∧DataW.Trod enc P w base spare held t3 v3 d3 p3:=by
 obtain ⟨v,vs,d,ds',p,q,hargs,rfl,rfl,hd,hrest⟩:=trodAll_cons h
 obtain ⟨v',vs',d',ds'',p',q',rfl,rfl,rfl,hd',hrest'⟩:=trodAll_cons hrest
 obtain ⟨v'',vs'',d'',dsa,p'',q'',rfl,rfl,rfl,hd'',hrest''⟩:=trodAll_cons hrest'
 obtain ⟨v3,vs3,d3,ds3,p3,q3,rfl,rfl,rfl,hd3,hrest3⟩:=trodAll_cons hrest''
 obtain ⟨rfl,rfl,rfl⟩:=trodAll_nil hrest3
 exact ⟨v,v',v'',v3,d,d',d'',d3,p,p',p'',p3,by cases args;simp_all,rfl,by simp,hd,hd',hd'',hd3⟩
set_option maxRecDepth 100000 in
theorem Dm (os:Os) (started:os.Started) (H:Type) (enc:TypeId×Value→H) :
  ReturnsInHanded {} Tryz.checked os 5 .any (Rows.commitCountsSpec.pre6 enc prog f5 Rows.commitCountsRow.domain false) (Rows.commitCountsSpec.post enc prog f5 false true false false):=by
 refine returnsInHanded_of_change (C:=Tryz.checked) GF started (by kernel_rfl) Tryz.func5
  (ChangeSpec.witness6 (enc:=enc) (C:=Tryz.checked) false ⟨#[],#[.int .i64 0,.slice none 0 0,.slice none 0 0,.int .i64 0],[]⟩ 8 (by kernel_rfl) (by kernel_rfl) (by kernel_rfl) (by kernel_rfl)) ?_
 intro W base args ds gs before hval0 hW hcnd _
 have hval:∀ (j:Nat) t v,f5.params[j]?=some t→args[j]?=some v→Value.okWide prog W .any base t v:=hval0
 have hW':=hW
 obtain ⟨p,q,hA0,hV,rfl,hfz,hnd⟩:=hW
 have hA:DataW.TrodAll enc prog W 0 (λ_=>true) true f5.params.toList args.toList ds p:=hA0
 rw [Tryz.params5] at hA hval
 obtain ⟨v0,v1,v2,v3,d0,d1,d2,d3,p0,p1,p2,p3,rfl,rfl,rfl,h0,h1,h2,h3⟩:=wU hA
 obtain ⟨rfl,rfl⟩:=trodVars_none hV
 obtain ⟨a0,rfl,_,_,w0⟩:=open_int Tryz.underlying3 (hval 0 _ v0 rfl rfl) h0
 obtain ⟨a1,c1,l1,rfl,r1,w1⟩:=wT Tryz.underlying22 Tryz.underlying3 (by kernel_rfl) (hval 1 _ v1 rfl rfl) h1
 obtain ⟨a2,c2,l2,rfl,r2,w2⟩:=wT Tryz.underlying22 Tryz.underlying3 (by kernel_rfl) (hval 2 _ v2 rfl rfl) h2
 obtain ⟨a3,rfl,_,_,w3⟩:=open_int Tryz.underlying3 (hval 3 _ v3 rfl rfl) h3
 refine (tt W (BS w0) (BS w3) r1 w1 r2 w2).mono λe W' ⟨x,he,hx,hg⟩=>?_
 subst he hx
 refine ⟨_,rfl,Dl hW' hg (by rw [Tryz.params5];decide +kernel) rfl rfl (tb:=4) (by kernel_rfl) Tryz.underlying4⟩
theorem GH:Rows.commitCountsRow.wf (OpenSpec.ofChange Rows.commitCountsSpec)=true:=by kernel_rfl
theorem GI:mapsRowed prog=true:=by kernel_rfl
theorem GJ:f5.params.all (prog.readableRec ·)=true:=by kernel_rfl
theorem GK:namedTie prog Rows.commitCountsRow.named Rows.commitCountsSpec.vars=true:=by kernel_rfl
theorem GL:(Rows.commitCountsRow.inPlace == prog.inPlace 5)=true:=by kernel_rfl
theorem GM:(Rows.commitCountsRow.unfollowed == prog.unfollowed 5)=true:=by kernel_rfl
theorem GN:(Rows.commitCountsRow.recurses == prog.recurses 5)=true:=by kernel_rfl
theorem GO:(Rows.commitCountsRow.named == prog.varsNamed 5)=true:=by kernel_rfl
theorem Dn:joinedFacts prog 5 f5 Rows.commitCountsSpec Rows.commitCountsRow=true:=by
 unfold joinedFacts
 rw [GH,laid,GI,GJ,GK,GL,GM,GN,GO]
 kernel_rfl
theorem Gb:Rows.commitCountsRow.holds Tryz.pinned (OpenSpec.ofChange Rows.commitCountsSpec):=
 OpenClaim.holds_of_wide 5 f5 rfl rfl rfl rfl rfl rfl rfl ⟨rfl,rfl,rfl,rfl,rfl⟩ rfl rfl rfl rfl rfl (by kernel_rfl) Tryz.func5 Dn
  (of_decide_eq_true (by kernel_rfl)) (by unfold Func.isWrapper;first | (rw [if_pos (by decide +kernel)];kernel_rfl) | (rw [if_neg (by decide +kernel)];exact ⟨rfl,rfl⟩))
  (λos started H enc _=>Dm os started H enc)
theorem commitCounts_holds:Rows.CommitCountsSaid:=Gb
#print axioms commitCounts_holds
end Go.Proofs.YtegepanmkjemjaaGreat
