import Derived.Test.YtgpmeaicjonenaaGreata42
import Derived.Test.YtgpmeaicjonenaaGreata02
import Derived.Test.YtgpmeaicjonenaaGreatRows
import Derived.WalkKit
import Derived.ProofKit
import Derived.OpenShut
import Derived.Deep.Slices
set_option linter.unusedVariables false
namespace Go.Proofs.YtgpmeaicjonenaaGreat
open Go.Proofs.Tryz
open Go.Eng C16
def uQ (m i:Nat):List aG:=((List.range i).filter (bitF m)).map pgF
theorem zg (m i:Nat):uQ m (i+1)=uQ m i++(if bitF m i=true then [pgF i] else []):=by
 unfold uQ
 rw [List.range_succ,List.filter_append,List.map_append]
 congr 1
 cases h:bitF m i<;>simp [h]
theorem Bj (m i:Nat):(uQ m i).length≤i:=by
 unfold uQ
 rw [List.length_map]
 have:=List.length_filter_le (bitF m) (List.range i)
 rw [List.length_range] at this
 exact this
theorem FX:∀ x,x<14→∀ i,i<4→(band .i64 (bshr .i64 (((x+1:Nat):Int)) ((i:Nat):Int)) 1 == 1)=bitF (x+1) i:=by decide
structure FaL (z0 z:World) (m b2:Nat) (rv:aM) (i:Nat) (la:Option Addr) (lc:Nat) (wa:Option Addr) (wl wc:Nat):Prop where
 bn:New z0 z
 jl:z0.heap.size≤b2
 jb:Blk z b2 (aL.cells ⟨0,1,100,rv,none,0,0,wa,wl,wc⟩) 39
 lo:Owns z 3 1 la i lc (is (sD.take i))
 wo:Owns z TPg 9 wa wl wc (nr (uQ m i)).flatten
 wl:wl=(uQ m i).length
 lf:∀ k,isB la k→b2<k
 wf:∀ k,isB wa k→b2<k
theorem FaL.noop {z0 z z':World} {m b2:Nat} {rv:aM} {i:Nat} {la:Option Addr} {lc:Nat} {wa:Option Addr} {wl wc:Nat} (h:FaL z0 z m b2 rv i la lc wa wl wc) (hn:New z z'):FaL z0 z' m b2 rv i la lc wa wl wc:=
 ⟨h.bn.new hn,h.jl,New.blk hn h.jb,Owns.new hn h.lo,Owns.new hn h.wo,h.wl,h.lf,h.wf⟩
theorem Bk {i:Nat} (h:i<4):sD.take (i+1)=sD.take i++[96+(i:Int)]:=by
 obtain rfl | rfl | rfl | rfl:i=0∨i=1∨i=2∨i=3:=by omega
 all_goals rfl
section
attribute [local irreducible] drive alone
set_option maxRecDepth 20000 in
set_option maxHeartbeats 4000000 in
theorem fa3 {w z:World} {n fb:Nat} (hn:1≤n∧n≤3) {raw:Int} (hraw:I64 raw) {A:Nat→Prop} {χ:Nat→Tag} {X:FabX} (hF:aZ A χ z fb X) (hnw:New w z) (hown:∀ k,A k→w.heap.size≤k) (hX:X.pure=Fab.fresh n 2 100)
  {sch:List Int} {sa:Option Addr} {sc:Nat} (hsd:Rd w sa (is sch)) (hsi:∀ x ∈ sch,I64 x) (jj:List Value) :
  W prog (sub (aD fFA) [1,1,1,1,1]) (dW n raw sa sch.length sc (some ⟨fb,0,none⟩) jj) (retQ prog fFA (RPf w)) z:=by
 refine kR (P:=prog) (fn:=fFA) (R:=RPf w) (λ_ _=>rfl) ?_
 rw [jt]
 refine aF (zy z (n:=n) (by omega) (by omega)) ?_
 rintro v z1 ⟨rv,vw,rfl,hv,hn1,_,rfl⟩
 refine aM.mk_ex rv ⟨rfl,gF (vs:=rv.cells) rfl (aM.single _) λb1 z3 hb1 hz3 hn3=>?_⟩
 have hz3:Blk z3 b1 rv.cells TVw:=hz3
 have hn13:=hn1.new hn3
 have hF3:=hF.new hn13
 have hv3:ViewAt A z3 rv (rg n):=(hv.mono λk _ hk=>hF.low k hk).new hn3
 refine aM.mk_ex rv ⟨aI hz3 rfl,gF (vs:=aL.cells ⟨0,1,100,rv,none,0,0,none,0,0⟩) rfl (aL.single _) λb2 z5 hb2 hz5 hn5=>?_⟩
 have hz5:Blk z5 b2 (aL.cells ⟨0,1,100,rv,none,0,0,none,0,0⟩) 39:=hz5
 have hpk:=Int.emod_nonneg raw (b:=14) (by omega)
 have hpk2:=Int.emod_lt_of_pos raw (b:=14) (by omega)
 obtain ⟨x,hx⟩:∃ x:Nat,raw % 14=x:=⟨(raw % 14).toNat,by omega⟩
 have hx14:x<14:=by omega
 have hs1:=hn1.size
 have hs3:=hn3.size
 have hs5:=hn5.size
 have hl1:=hz3.lt
 refine aT mix (λq env u=>∃ (i:Nat) (la:Option Addr) (lc:Nat) (wa:Option Addr) (wl wc:Nat) (jj:List Value),q=4 - i∧i≤4∧env=bW raw sa sch.length sc (some ⟨fb,0,none⟩) ⟨b1,0,none⟩ ⟨b2,0,none⟩ la i lc i jj∧FaL z3 u (x+1) b2 rv i la lc wa wl wc) 4
  ⟨0,none,0,none,0,0,_,by omega,by omega,rfl,hn5,by omega,hz5,Owns.nil _ _ _,Owns.nil _ _ _,rfl,λk hk=>absurd hk noB,λk hk=>absurd hk noB⟩ ?_
 rintro q env u ⟨i,la,lc,wa,wl,wc,jj,rfl,hi,rfl,hL⟩
 refine kR (P:=prog) (fn:=fFA) (R:=RPf w) (λ_ _=>rfl) ?_
 rw [ic]
 refine aH (λhq=>?_) (λhq=>?_)
 ·have hlt:i<4:=by omega
  have hb2l:=hL.jb.lt
  have hwl:=hL.wl
  have hsl:=Bj (x+1) i
  rw [w64 (x:=96+(i:Int)) (by omega) (by omega)]
  refine DC hL.lo (by omega) λb ap cap' u2 hb hlo hk2 hap=>?_
  rw [←Bk hlt] at hlo
  have hapf:∀ k,isB ap k→b2<k:=λk hk=>by
   rcases hap k hk with e | e
   ·exact hL.lf k e
   ·omega
  have hdis:∀ k,isB wa k→¬ isB la k:=λk h1 h2=>by
   obtain ⟨_,c1⟩:=dU hL.wo h1
   obtain ⟨_,c2⟩:=dU hL.lo h2
   exact c1.ne c2 (by decide) rfl
  have hjb2:=hk2.blk hL.jb λe=>by have:=hL.lf _ e;omega
  have hwo2:=hL.wo.keep hk2 hdis
  have hbn2:New z3 u2:=hL.bn.trans hk2 λk hlt e=>by have:=hL.lf k e;have:=hL.jl;omega
  refine aF (po u2 raw 14 hraw (by omega)) ?_
  rintro v u3 ⟨rfl,rfl⟩
  rw [if_neg (by omega),hx]
  have ew:IntKind.u64.wrap (i:Int)=(i:Int):=rI (by omega) (by omega)
  refine ⟨_,rfl,by rw [ew];omega,?_⟩
  rw [ew,w64 (x:=(x:Int)+1) (by omega) (by omega)]
  have hbit:=FX x hx14 i hlt
  rw [show (((x+1:Nat):Int))=(x:Int)+1 by omega] at hbit
  rw [hbit]
  have hsu:=zg (x+1) i
  rw [w64 (x:=(i:Int)+1) (by omega) (by omega)]
  cases hbt:bitF (x+1) i with
  |true=>
   rw [hbt,if_pos rfl] at hsu
   refine gE rfl ⟨_,_,_,hjb2.cell (i:=6) rfl,?_⟩
   rintro b4 u4 hb4 hw4
   obtain ⟨hz4,hn4⟩:=aO hb4 hw4
   have hz4:Blk u4 b4 (pgF i).cells TPg:=hz4
   clear hw4
   obtain ⟨inf,hinf,hzz,hsz,hby⟩:=iF (T:=TPg) (z:=.agg #[.int .i64 0,.int .u64 0,.int .u64 0,.int .u64 0,.int .u64 0,.int .u64 0,.int .u64 0,.int .u64 0,.int .u64 0]) (n:=9) (m:=72) (by kernel_rfl)
   refine tB (cells:=aG.cells) aG.len aG.single Tryz.underlying37 hinf hzz (by rw [hsz];rfl) hsz (by omega) (by omega) (l:=uQ (x+1) i) (Owns.new hn4 hwo2) (l2:=[pgF i]) (m:=1) (eQ hz4 rfl) rfl (by omega) λwp wcap u5 hwo5 hk5 hwp=>?_
   rw [←hsu] at hwo5
   have hs24:=hn4.size
   have hk2s:=hk2.size
   have hwpf:∀ k,isB wp k→b2<k:=λk hk=>by
    rcases hwp k hk with e | e
    ·exact hL.wf k e
    ·omega
   have hjb5:=hk5.blk (New.blk hn4 hjb2) λe=>by have:=hL.wf _ e;omega
   have hlo5:=(Owns.new hn4 hlo).keep hk5 λk h1 h2=>by
    obtain ⟨_,c1⟩:=dU hlo h1
    obtain ⟨_,c2⟩:=dU hwo2 h2
    exact c1.ne c2 (by decide) rfl
   have hbn5:New z3 u5:=(hbn2.new hn4).trans hk5 λk hlt e=>by have:=hL.wf k e;have:=hL.jl;omega
   refine pS (b:=b2) hjb5 (i:=6) rfl λu6 hjb6 hk6=>?_
   refine ik ⟨4 - (i+1),by omega,i+1,ap,cap',wp,wl+1,wcap,_,rfl,by omega,rfl,hbn5.trans hk6 λk hlt e=>by have:=hL.jl;omega,hL.jl,hjb6,hlo5.keep hk6 λk h1 h2=>by have:=hapf k h1;omega,hwo5.keep hk6 λk h1 h2=>by have:=hwpf k h1;omega,by rw [hsu,List.length_append,hwl];rfl,hapf,hwpf⟩
  |false=>
   rw [hbt,if_neg (by simp),List.append_nil] at hsu
   refine er rfl (ik ⟨4 - (i+1),by omega,i+1,ap,cap',wa,wl,wc,_,rfl,by omega,rfl,hbn2,hL.jl,hjb2,hlo,by rw [hsu];exact hwo2,by rw [hsu];exact hwl,hapf,hL.wf⟩)
 ·have hie:i=4:=by omega
  subst hie
  refine xt (ri (ik ?_))
  rw [Bz (λ_ _=>rfl)]
  have hs4:uQ (x+1) 4=setF (x+1):=rfl
  have hbn:=hL.bn
  have hb1o:z.heap.size≤b1:=by omega
  have hnwz:=hnw.size
  have hFa:FaAt w u n (x+1) fb b1 b2 A χ X rv wa wl wc:=⟨hF3.new hbn,(hnw.new hn13).new hbn,hown,New.blk hbn hz3,hL.jb,hv3.new hbn,λh=>by have:=hF.low _ h;omega,λh=>by have:=hF3.low _ h;omega,by omega,by omega,by rw [←hs4];exact hL.wl⟩
  exact fa4 hn (by omega) hFa hX hL.lo.rd (λk hk h=>by have:=hL.lf k hk;have:=hF3.low _ h;omega) (by rw [←hs4];exact hL.wo.rd) (λk hk h=>by have:=hL.wf k hk;have:=hF3.low _ h;omega) hsd hsi _
set_option maxRecDepth 20000 in
set_option maxHeartbeats 4000000 in
theorem tg (w:World) {nodes raw:Int} (hno:I64 nodes) (hraw:I64 raw) {sch:List Int} {sa:Option Addr} {sc:Nat} (hsd:Rd w sa (is sch)) (hsi:∀ x ∈ sch,I64 x) :
  Does 12 [.int .i64 nodes,.int .i64 raw,.slice sa sch.length sc] w (RPf w):=by
 refine does Tryz.func12 ?_
 rw [kS]
 refine aH (λh=>⟨rfl,Keep.refl _ _⟩) (λh=>?_)
 refine aF (po w nodes 3 hno (by omega)) ?_
 rintro v w1 ⟨rfl,rfl⟩
 have hp:=Dn (x:=nodes) (n:=3) (by omega)
 rw [if_neg (by omega)] at hp ⊢
 obtain ⟨y,hy⟩:∃ y:Nat,nodes % 3=y:=⟨(nodes % 3).toNat,by omega⟩
 rw [hy]
 refine ⟨_,rfl,?_⟩
 rw [w64 (x:=(y:Int)+1) (by omega) (by omega)]
 rw [show (y:Int)+1=((y+1:Nat):Int) by omega]
 refine aF (Ai (n:=y+1) (c:=2) (lines:=100) (by omega) (by omega) (by omega)) ?_
 rintro v z ⟨fb,A,χ,X,rfl,hF,hnz,hA,hX⟩
 refine ⟨_,_,rfl,?_⟩
 rw [ib,gW]
 refine kR (P:=prog) (fn:=fFA) (R:=RPf w1) (λ_ _=>rfl) ?_
 rw [jo]
 refine er rfl ?_
 refine aF (Et z) ?_
 rintro v z1 ⟨rfl,hn1⟩
 refine ⟨_,rfl,ik ?_⟩
 refine kR (P:=prog) (fn:=fFA) (R:=RPf w1) (λ_ _=>rfl) ?_
 rw [jr]
 refine er rfl (ik ?_)
 exact fa3 (by omega) hraw (hF.new hn1) (hnz.new hn1) hA hX hsd hsi _
end
end Go.Proofs.YtgpmeaicjonenaaGreat
namespace Go.Proofs.YtgpmeaicjonenaaGreat
open Go.Proofs.Tryz
open Go.ChangeShapes Go.WideShapes Go.ChangeAt Go.RowKit
theorem laid:laidOutB prog=true:=by kernel_rfl
theorem FY:ownKnob prog.godebug=none:=by kernel_rfl
theorem qi {H:Type} {enc:TypeId×Value→H} {W W':World} {sp:Nat→Bool}:∀ {ts:List TypeId} {vs:List Value} {ds:List (DataW H)} {ps:List MemPlace},(∀ t ∈ ts,prog.readableRec t=true∧t<prog.types.size)→DataW.TrodAll enc prog W 0 (λ_=>true) true ts vs ds ps→
  (∀ p ∈ ps,W.sameAt W' p)→(∀ p ∈ ps,sp p.block=true)→DataW.TrodAll enc prog W' 0 sp true ts vs ds ps
 | [],_,_,_,_,h,_,_=>by
  obtain ⟨rfl,rfl,rfl⟩:=trodAll_nil h
  exact trodAll_mk0
 |t::ts,_,_,_,ht,h,hs,hp=>by
  obtain ⟨v,vs1,d,ds1,a,b,rfl,rfl,rfl,h1,h2⟩:=trodAll_cons h
  refine trodAll_cons_mk (WideElems.Trod_stays laid (ht t List.mem_cons_self).1 (ht t List.mem_cons_self).2 h1 (λp hq=>hs p (List.mem_append_left _ hq)) λp hq=>hp p (List.mem_append_left _ hq)) ?_
  exact qi (λt h=>ht t (List.mem_cons_of_mem _ h)) h2 (λp hq=>hs p (List.mem_append_right _ hq)) λp hq=>hp p (List.mem_append_right _ hq)
theorem CM {H:Type} {enc:TypeId×Value→H} {f:Func} {s:ChangeSpec} {apart:Bool} {W W':World} {args:Array Value} {ds gs:List (DataW H)} {before:List MemPlace} {tb:TypeId} (hW:DataW.Whole enc prog f.params.toList s.vars apart W args.toList ds gs before)
  (hb:Go.Eng.New W W') (hts:∀ t ∈ f.params.toList,prog.readableRec t=true∧t<prog.types.size) (hv:s.vars=[]) (hfn:s.fn H (ds++gs)={ results:=[.lit (.bool true)],args:=ds }) (hr:f.resultTypes=#[tb]) (htb:prog.underlying tb=some .bool) :
  s.post enc prog f apart true false false W args (.bool true) W':=by
 have hB:Go.RowKit.Below W.heap.size W W':=hb.below (Nat.le_refl _) λ_ _ h=>h
 have hlt:=hW.lt
 have hW0:=hW
 obtain ⟨p,q,hA,hV,rfl,hfz,hnd⟩:=hW
 refine ⟨ds,gs,p++q,[],p,[],hW0,?_,?_,?_,hB.frame _,λh=>by cases h⟩
 ·rw [hfn,hr]
  exact trodAll_cons_mk (shut_bool htb _) trodAll_mk0
 ·rw [hfn]
  exact qi hts hA (λx hx=>hB.same (hlt x (List.mem_append_left _ hx))) λx hx=>by simpa using hlt x (List.mem_append_left _ hx)
 ·rw [hfn,hv]
  rfl
theorem Bl {n:Int} (h:(Lit.int .i64 n).wf=true):I64 n:=by have:=bounds_i64 h;exact ⟨this.1,by omega⟩
end Go.Proofs.YtgpmeaicjonenaaGreat
namespace Go.Proofs.YtgpmeaicjonenaaGreat
open Go.ChangeShapes Go.WideShapes Go.ChangeAt Go.RowKit Go.Eng
theorem yk {sz:Nat} (h0:0<sz):∀ {rows:List (List Value)} {j:Nat} {u:Value},(∀ r ∈ rows,r.length=sz)→rows.flatten[j]?=some u→∃ r,rows[j / sz]?=some r∧r[j % sz]?=some u
 | [],j,u,_,h=>by simp at h
 |r::rows,j,u,hr,h=>by
  have hl:=hr r List.mem_cons_self
  rw [List.flatten_cons,List.getElem?_append] at h
  by_cases hj:j<sz
  ·rw [if_pos (by omega)] at h
   exact ⟨r,by rw [Nat.div_eq_of_lt hj];rfl,by rw [Nat.mod_eq_of_lt hj];exact h⟩
  ·rw [if_neg (by omega),hl] at h
   obtain ⟨r',h1,h2⟩:=yk h0 (λr hr'=>hr r (List.mem_cons_of_mem _ hr')) h
   have e1:j / sz=(j - sz) / sz+1:=by
    rw [Nat.div_eq_sub_div h0 (by omega)]
   have e2:j % sz=(j - sz) % sz:=by rw [Nat.mod_eq_sub_mod (by omega)]
   exact ⟨r',by rw [e1];simpa using h1,by rw [e2];exact h2⟩
theorem Bm {w:World} {a:Addr} {v:Value} (h:w.cell? a=some v):a.spot=none:=by
 cases hs:a.spot with
 |none=>rfl
 |some s=>
  exfalso
  unfold World.cell? at h
  simp only [hs,Option.isSome_some,if_true] at h
  split at h<;>simp_all
theorem zh {H:Type} {enc:TypeId×Value→H} {P:Program} {W:World} {k fuel:Nat} {t e:TypeId} {cs:List Value} {x:DataW H×List MemPlace} {held:Bool} (ht:P.underlying t=some (.slice e)) (hc:P.cellsOf e=k) (hk:0<k)
  (hf:DataW.trod enc P W 0 (λ_=>true) held fuel t cs=some x):∃ a cap rows,cs=[.slice a (List.length rows) cap]∧rows.length≤cap∧Rd W a rows.flatten∧∀ r ∈ rows,r.length=k∧∃ fuel x,DataW.trod enc P W 0 (λ_=>true) held fuel e r=some x:=by
 rcases Deep.open_slice ht hf with ⟨h1,_⟩ | ⟨ad,len,cap,m,n,D,Pl,h1,_,h3,_,h5,_,h7⟩
 ·exact ⟨none,0,[],h1,Nat.le_refl _,.inl rfl,λx hx=>by cases hx⟩
 ·subst h1
  have hm:len≤m:=by rw [h5];simp;omega
  obtain ⟨f,hf'⟩:=Deep.choose_lt (α:=List Value) (p:=λi cs=>W.cells? 0 (ad.add (i * k)) k=some cs∧DataW.trod enc P W 0 (λ_=>true) held n e cs=some (D i,Pl i)) (n:=m) (λi hi=>by
   obtain ⟨cs,g1,g2⟩:=h7 i hi
   rw [hc] at g1
   exact ⟨cs,g1,g2⟩)
  have hrow:∀ (i:Nat) (r:List Value),((List.range len).map f)[i]?=some r→i<len∧r=f i:=by
   intro i r hr
   have hi:=aN hr
   simp at hi
   simp [hi] at hr
   exact ⟨hi,hr.symm⟩
  have hlens:∀ r ∈ (List.range len).map f,r.length=k:=by
   intro r hr
   obtain ⟨i,hi⟩:=List.mem_iff_getElem?.1 hr
   obtain ⟨hi,rfl⟩:=hrow i r hi
   exact (World.cells?_some (hf' i (by omega)).1).2.1
  refine ⟨some ad,cap,(List.range len).map f,by simp,by simpa using h3,?_,λr hr=>⟨hlens r hr,?_⟩⟩
  ·by_cases h0:len=0
   ·subst h0;exact .inl rfl
   ·have hcell:∀ (i q:Nat) (u:Value),i<len→(f i)[q]?=some u→q<k→W.cell? (ad.add (i * k+q))=some u:=by
     intro i q u hi hq hqk
     have:=(World.cells?_some (hf' i (by omega)).1).2.2 q hqk
     rw [Deep.add_add] at this
     rw [this,hq]
    have hf0:=(World.cells?_some (hf' 0 (by omega)).1).2.1
    have hs:ad.spot=none:=by
     have h8:=hcell 0 0 _ (by omega) (List.getElem?_eq_getElem (by omega)) hk
     have:=Bm h8
     simpa [Addr.add] using this
    refine .inr ⟨ad.block,ad.off,by cases ad;simp_all,λj u hu=>?_⟩
    obtain ⟨r,g1,g2⟩:=yk hk hlens hu
    obtain ⟨hi,rfl⟩:=hrow _ _ g1
    have h8:=hcell (j / k) (j % k) u hi g2 (Nat.mod_lt _ hk)
    rw [Nat.mul_comm,Nat.div_add_mod] at h8
    rw [←h8]
    unfold Addr.add
    split
    ·rename_i h0;subst h0;cases ad;simp_all
    ·cases ad;simp_all
  ·obtain ⟨i,hi⟩:=List.mem_iff_getElem?.1 hr
   obtain ⟨hi,rfl⟩:=hrow i r hi
   exact ⟨n,_,(hf' i (by omega)).2⟩
theorem Bo {H:Type} {enc:TypeId×Value→H} {P:Program} {W:World} {r:Reach} {b0 k:Nat} {t e:TypeId} {v:Value} {d:DataW H} {ps:List MemPlace} {held:Bool} (ht:P.underlying t=some (.slice e)) (hc:P.cellsOf e=k) (hk:0<k) (hval:Value.okWide P W r b0 t v)
  (hd:DataW.Trod enc P W 0 (λ_=>true) held t v d ps):∃ a cap rows,v=.slice a (List.length rows) cap∧Rd W a rows.flatten∧∀ r ∈ rows,r.length=k∧∃ fuel x,DataW.trod enc P W 0 (λ_=>true) held fuel e r=some x:=by
 obtain ⟨a,len,cap,rfl⟩:=okWide_slice ht hval
 obtain ⟨fuel,hf⟩:=hd
 obtain ⟨a',cap',rows,h1,_,h2,h3⟩:=zh ht hc hk hf
 have h1':[Value.slice a len cap]=[.slice a' rows.length cap']:=h1
 simp at h1'
 obtain ⟨rfl,rfl,rfl⟩:=h1'
 exact ⟨_,_,_,rfl,h2,h3⟩
theorem Bp {H:Type} {enc:TypeId×Value→H} {P:Program} {W:World} {r:Reach} {b0:Nat} {t e:TypeId} {v:Value} {d:DataW H} {ps:List MemPlace} {held:Bool} (ht:P.underlying t=some (.slice e)) (he:P.underlying e=some (.int .i64)) (hc:P.cellsOf e=1) (hval:Value.okWide P W r b0 t v)
  (hd:DataW.Trod enc P W 0 (λ_=>true) held t v d ps):∃ a cap xs,v=.slice a (List.length xs) cap∧Rd W a (is xs)∧∀ x ∈ xs,I64 x:=by
 obtain ⟨a,cap,rows,rfl,h1,h2⟩:=Bo ht hc (by omega) hval hd
 have hint:∀ r ∈ rows,∃ n,r=[.int .i64 n]∧I64 n:=by
  intro r hr
  obtain ⟨_,fuel,x,hx⟩:=h2 r hr
  obtain ⟨n,e,_,w⟩:=DataW.trod_int he hx
  exact ⟨n,e,Bl w⟩
 clear h2
 have key:∀ rows:List (List Value),(∀ r ∈ rows,∃ n,r=[Value.int .i64 n]∧I64 n)→∃ xs:List Int,rows.length=xs.length∧rows.flatten=is xs∧∀ x ∈ xs,I64 x:=by
  intro rows
  induction rows with
  |nil=>intro _;exact ⟨[],rfl,rfl,λx hx=>by cases hx⟩
  |cons r rows ih=>
   intro h
   obtain ⟨n,rfl,hn⟩:=h r List.mem_cons_self
   obtain ⟨xs,g1,g2,g3⟩:=ih λr hr=>h r (List.mem_cons_of_mem _ hr)
   refine ⟨n::xs,by simp [g1],by simp [is,g2],λx hx=>?_⟩
   rcases List.mem_cons.1 hx with rfl | hx
   ·exact hn
   ·exact g3 x hx
 obtain ⟨xs,g1,g2,g3⟩:=key rows hint
 exact ⟨a,cap,xs,by rw [g1],by rw [←g2];exact h1,g3⟩
end Go.Proofs.YtgpmeaicjonenaaGreat
namespace Go.Proofs.YtgpmeaicjonenaaGreat
open Go.Proofs.Tryz
open Go.ChangeShapes Go.WideShapes Go.ChangeAt Go.RowKit Go.Eng
theorem xk {H:Type} {enc:TypeId×Value→H} {P:Program} {w:World} {base:Nat} {spare:Nat→Bool} {held:Bool} {t t' t'':TypeId} {args:Array Value} {ds:List (DataW H)} {ps:List MemPlace} (h:DataW.TrodAll enc P w base spare held [t,t',t''] args.toList ds ps) :
  ∃ v v' v'' d d' d'' p p' p'',args=#[v,v',v'']∧ds=[d,d',d'']∧ps=p++p'++p''∧DataW.Trod enc P w base spare held t v d p∧DataW.Trod enc P w base spare held t' v' d' p'∧DataW.Trod enc P w base spare held t'' v'' d'' p'':=by
 obtain ⟨v,vs,d,ds',p,q,hargs,rfl,rfl,hd,hrest⟩:=trodAll_cons h
 obtain ⟨v',vs',d',ds'',p',q',rfl,rfl,rfl,hd',hrest'⟩:=trodAll_cons hrest
 obtain ⟨v'',vs'',d'',dsa,p'',q'',rfl,rfl,rfl,hd'',hrest''⟩:=trodAll_cons hrest'
 obtain ⟨rfl,rfl,rfl⟩:=trodAll_nil hrest''
 exact ⟨v,v',v'',d,d',d'',p,p',p'',by cases args;simp_all,rfl,by simp,hd,hd',hd''⟩
set_option maxRecDepth 100000 in
theorem CN (os:Os) (started:os.Started) (H:Type) (enc:TypeId×Value→H) :
  ReturnsInHanded {} Tryz.checked os 12 .any (Rows.fetchAtomicSpec.pre6 enc prog f12 Rows.fetchAtomicRow.domain false) (Rows.fetchAtomicSpec.post enc prog f12 false true false false):=by
 refine returnsInHanded_of_change (C:=Tryz.checked) FY started (by kernel_rfl) Tryz.func12
  (ChangeSpec.witness6 (enc:=enc) (C:=Tryz.checked) false ⟨#[],#[.int .i64 0,.int .i64 0,.slice none 0 0],[]⟩ 8 (by kernel_rfl) (by kernel_rfl) (by kernel_rfl) (by kernel_rfl)) ?_
 intro W base args ds gs before hval0 hW hcnd _
 have hval:∀ (j:Nat) t v,f12.params[j]?=some t→args[j]?=some v→Value.okWide prog W .any base t v:=hval0
 have hW':=hW
 obtain ⟨p,q,hA0,hV,rfl,hfz,hnd⟩:=hW
 have hA:DataW.TrodAll enc prog W 0 (λ_=>true) true f12.params.toList args.toList ds p:=hA0
 rw [Tryz.params12] at hA hval
 obtain ⟨v0,v1,v2,d0,d1,d2,p0,p1,p2,rfl,rfl,rfl,h0,h1,h2⟩:=xk hA
 obtain ⟨rfl,rfl⟩:=trodVars_none hV
 obtain ⟨a0,rfl,_,_,w0⟩:=open_int Tryz.underlying3 (hval 0 _ v0 rfl rfl) h0
 obtain ⟨a1,rfl,_,_,w1⟩:=open_int Tryz.underlying3 (hval 1 _ v1 rfl rfl) h1
 obtain ⟨a2,c2,l2,rfl,r2,w2⟩:=Bp Tryz.underlying22 Tryz.underlying3 (by kernel_rfl) (hval 2 _ v2 rfl rfl) h2
 refine (tg W (Bl w0) (Bl w1) r2 w2).mono λe W' ⟨x,he,hx,hg⟩=>?_
 subst he hx
 refine ⟨_,rfl,CM hW' hg (by rw [Tryz.params12];decide +kernel) rfl rfl (tb:=4) (by kernel_rfl) Tryz.underlying4⟩
theorem FZ:Rows.fetchAtomicRow.wf (OpenSpec.ofChange Rows.fetchAtomicSpec)=true:=by kernel_rfl
theorem F3:mapsRowed prog=true:=by kernel_rfl
theorem F4:f12.params.all (prog.readableRec ·)=true:=by kernel_rfl
theorem F5:namedTie prog Rows.fetchAtomicRow.named Rows.fetchAtomicSpec.vars=true:=by kernel_rfl
theorem F6:(Rows.fetchAtomicRow.inPlace == prog.inPlace 12)=true:=by kernel_rfl
theorem F7:(Rows.fetchAtomicRow.unfollowed == prog.unfollowed 12)=true:=by kernel_rfl
theorem F8:(Rows.fetchAtomicRow.recurses == prog.recurses 12)=true:=by kernel_rfl
theorem F9:(Rows.fetchAtomicRow.named == prog.varsNamed 12)=true:=by kernel_rfl
theorem CO:joinedFacts prog 12 f12 Rows.fetchAtomicSpec Rows.fetchAtomicRow=true:=by
 unfold joinedFacts
 rw [FZ,laid,F3,F4,F5,F6,F7,F8,F9]
 kernel_rfl
theorem Fx:Rows.fetchAtomicRow.holds Tryz.pinned (OpenSpec.ofChange Rows.fetchAtomicSpec):=
 OpenClaim.holds_of_wide 12 f12 rfl rfl rfl rfl rfl rfl rfl ⟨rfl,rfl,rfl,rfl,rfl⟩ rfl rfl rfl rfl rfl (by kernel_rfl) Tryz.func12 CO
  (of_decide_eq_true (by kernel_rfl)) (by unfold Func.isWrapper;first | (rw [if_pos (by decide +kernel)];kernel_rfl) | (rw [if_neg (by decide +kernel)];exact ⟨rfl,rfl⟩))
  (λos started H enc _=>CN os started H enc)
theorem fetchAtomic_holds:Rows.FetchAtomicSaid:=Fx
#print axioms fetchAtomic_holds
end Go.Proofs.YtgpmeaicjonenaaGreat
