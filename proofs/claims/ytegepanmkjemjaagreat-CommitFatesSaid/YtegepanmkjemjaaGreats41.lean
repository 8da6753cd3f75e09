import Derived.Test.YtegepanmkjemjaaGreats02
import Derived.Test.YtegepanmkjemjaaGreatRows
import Derived.WalkKit
import Derived.ProofKit
import Derived.OpenShut
import Derived.Deep.Slices
import Derived.Test.YtegepanmkjemjaaGreats39
import Derived.Test.YtegepanmkjemjaaGreats40
set_option linter.unusedVariables false
namespace Go.Proofs.YtegepanmkjemjaaGreat
open Go.Proofs.Tryz
open Go.ChangeShapes Go.WideShapes Go.ChangeAt Go.RowKit
theorem laid:laidOutB prog=true:=by kernel_rfl
theorem Dj:ownKnob prog.godebug=none:=by kernel_rfl
theorem pt {H:Type} {enc:TypeId×Value→H} {W W':World} {sp:Nat→Bool}:∀ {ts:List TypeId} {vs:List Value} {ds:List (DataW H)} {ps:List MemPlace},(∀ t ∈ ts,prog.readableRec t=true∧t<prog.types.size)→DataW.TrodAll enc prog W 0 (λ_=>true) true ts vs ds ps→
  (∀ p ∈ ps,W.sameAt W' p)→(∀ p ∈ ps,sp p.block=true)→DataW.TrodAll enc prog W' 0 sp true ts vs ds ps
 | [],_,_,_,_,h,_,_=>by
  obtain ⟨rfl,rfl,rfl⟩:=trodAll_nil h
  exact trodAll_mk0
 |t::ts,_,_,_,ht,h,hs,hp=>by
  obtain ⟨v,vs1,d,ds1,a,b,rfl,rfl,rfl,h1,h2⟩:=trodAll_cons h
  refine trodAll_cons_mk (WideElems.Trod_stays laid (ht t List.mem_cons_self).1 (ht t List.mem_cons_self).2 h1 (λp hq=>hs p (List.mem_append_left _ hq)) λp hq=>hp p (List.mem_append_left _ hq)) ?_
  exact pt (λt h=>ht t (List.mem_cons_of_mem _ h)) h2 (λp hq=>hs p (List.mem_append_right _ hq)) λp hq=>hp p (List.mem_append_right _ hq)
theorem AE {H:Type} {enc:TypeId×Value→H} {f:Func} {s:ChangeSpec} {apart:Bool} {W W':World} {args:Array Value} {ds gs:List (DataW H)} {before:List MemPlace} {tb:TypeId} (hW:DataW.Whole enc prog f.params.toList s.vars apart W args.toList ds gs before)
  (hb:Go.Eng.New W W') (hts:∀ t ∈ f.params.toList,prog.readableRec t=true∧t<prog.types.size) (hv:s.vars=[]) (hfn:s.fn H (ds++gs)={ results:=[.lit (.bool true)],args:=ds }) (hr:f.resultTypes=#[tb]) (htb:prog.underlying tb=some .bool) :
  s.post enc prog f apart true false false W args (.bool true) W':=by
 have hB:Go.RowKit.Below W.heap.size W W':=hb.below (Nat.le_refl _) λ_ _ h=>h
 have hlt:=hW.lt
 have hW0:=hW
 obtain ⟨p,q,hA,hV,rfl,hfz,hnd⟩:=hW
 refine ⟨ds,gs,p++q,[],p,[],hW0,?_,?_,?_,hB.frame _,λh=>by cases h⟩
 ·rw [hfn,hr]
  exact trodAll_cons_mk (shut_bool htb _) trodAll_mk0
 ·rw [hfn]
  exact pt hts hA (λx hx=>hB.same (hlt x (List.mem_append_left _ hx))) λx hx=>by simpa using hlt x (List.mem_append_left _ hx)
 ·rw [hfn,hv]
  rfl
theorem uF {n:Int} (h:(Lit.int .i64 n).wf=true):I64 n:=by have:=bounds_i64 h;exact ⟨this.1,by omega⟩
end Go.Proofs.YtegepanmkjemjaaGreat
namespace Go.Proofs.YtegepanmkjemjaaGreat
open Go.ChangeShapes Go.WideShapes Go.ChangeAt Go.RowKit Go.Eng
theorem wd {sz:Nat} (h0:0<sz):∀ {rows:List (List Value)} {j:Nat} {u:Value},(∀ r ∈ rows,r.length=sz)→rows.flatten[j]?=some u→∃ r,rows[j / sz]?=some r∧r[j % sz]?=some u
 | [],j,u,_,h=>by simp at h
 |r::rows,j,u,hr,h=>by
  have hl:=hr r List.mem_cons_self
  rw [List.flatten_cons,List.getElem?_append] at h
  by_cases hj:j<sz
  ·rw [if_pos (by omega)] at h
   exact ⟨r,by rw [Nat.div_eq_of_lt hj];rfl,by rw [Nat.mod_eq_of_lt hj];exact h⟩
  ·rw [if_neg (by omega),hl] at h
   obtain ⟨r',h1,h2⟩:=wd h0 (λr hr'=>hr r (List.mem_cons_of_mem _ hr')) h
   have e1:j / sz=(j - sz) / sz+1:=by
    rw [Nat.div_eq_sub_div h0 (by omega)]
   have e2:j % sz=(j - sz) % sz:=by rw [Nat.mod_eq_sub_mod (by omega)]
   exact ⟨r',by rw [e1];simpa using h1,by rw [e2];exact h2⟩
theorem zd {w:World} {a:Addr} {v:Value} (h:w.cell? a=some v):a.spot=none:=by
 cases hs:a.spot with
 |none=>rfl
 |some s=>
  exfalso
  unfold World.cell? at h
  simp only [hs,Option.isSome_some,if_true] at h
  split at h<;>simp_all
theorem xt {H:Type} {enc:TypeId×Value→H} {P:Program} {W:World} {k fuel:Nat} {t e:TypeId} {cs:List Value} {x:DataW H×List MemPlace} {held:Bool} (ht:P.underlying t=some (.slice e)) (hc:P.cellsOf e=k) (hk:0<k)
  (hf:DataW.trod enc P W 0 (λ_=>true) held fuel t cs=some x):∃ a cap rows,cs=[.slice a (List.length rows) cap]∧rows.length≤cap∧Rd W a rows.flatten∧∀ r ∈ rows,r.length=k∧∃ fuel x,DataW.trod enc P W 0 (λ_=>true) held fuel e r=some x:=by
 rcases Deep.open_slice ht hf with ⟨h1,_⟩ | ⟨ad,len,cap,m,n,D,Pl,h1,_,h3,_,h5,_,h7⟩
 ·exact ⟨none,0,[],h1,Nat.le_refl _,.inl rfl,λx hx=>by cases hx⟩
 ·subst h1
  have hm:len≤m:=by rw [h5];simp;omega
  obtain ⟨f,hf'⟩:=Deep.choose_lt (α:=List Value) (p:=λi cs=>W.cells? 0 (ad.add (i * k)) k=some cs∧DataW.trod enc P W 0 (λ_=>true) held n e cs=some (D i,Pl i)) (n:=m) (λi hi=>by
   obtain ⟨cs,g1,g2⟩:=h7 i hi
   rw [hc] at g1
   exact ⟨cs,g1,g2⟩)
  have hrow:∀ (i:Nat) (r:List Value),((List.range len).map f)[i]?=some r→i<len∧r=f i:=by
   intro i r hr
   have hi:=aX hr
   simp at hi
   simp [hi] at hr
   exact ⟨hi,hr.symm⟩
  have hlens:∀ r ∈ (List.range len).map f,r.length=k:=by
   intro r hr
   obtain ⟨i,hi⟩:=List.mem_iff_getElem?.1 hr
   obtain ⟨hi,rfl⟩:=hrow i r hi
   exact (World.cells?_some (hf' i (by omega)).1).2.1
  refine ⟨some ad,cap,(List.range len).map f,by simp,by simpa using h3,?_,λr hr=>⟨hlens r hr,?_⟩⟩
  ·by_cases h0:len=0
   ·subst h0;exact .inl rfl
   ·have hcell:∀ (i q:Nat) (u:Value),i<len→(f i)[q]?=some u→q<k→W.cell? (ad.add (i * k+q))=some u:=by
     intro i q u hi hq hqk
     have:=(World.cells?_some (hf' i (by omega)).1).2.2 q hqk
     rw [Deep.add_add] at this
     rw [this,hq]
    have hf0:=(World.cells?_some (hf' 0 (by omega)).1).2.1
    have hs:ad.spot=none:=by
     have h8:=hcell 0 0 _ (by omega) (List.getElem?_eq_getElem (by omega)) hk
     have:=zd h8
     simpa [Addr.add] using this
    refine .inr ⟨ad.block,ad.off,by cases ad;simp_all,λj u hu=>?_⟩
    obtain ⟨r,g1,g2⟩:=wd hk hlens hu
    obtain ⟨hi,rfl⟩:=hrow _ _ g1
    have h8:=hcell (j / k) (j % k) u hi g2 (Nat.mod_lt _ hk)
    rw [Nat.mul_comm,Nat.div_add_mod] at h8
    rw [←h8]
    unfold Addr.add
    split
    ·rename_i h0;subst h0;cases ad;simp_all
    ·cases ad;simp_all
  ·obtain ⟨i,hi⟩:=List.mem_iff_getElem?.1 hr
   obtain ⟨hi,rfl⟩:=hrow i r hi
   exact ⟨n,_,(hf' i (by omega)).2⟩
theorem ze {H:Type} {enc:TypeId×Value→H} {P:Program} {W:World} {r:Reach} {b0 k:Nat} {t e:TypeId} {v:Value} {d:DataW H} {ps:List MemPlace} {held:Bool} (ht:P.underlying t=some (.slice e)) (hc:P.cellsOf e=k) (hk:0<k) (hval:Value.okWide P W r b0 t v)
  (hd:DataW.Trod enc P W 0 (λ_=>true) held t v d ps):∃ a cap rows,v=.slice a (List.length rows) cap∧Rd W a rows.flatten∧∀ r ∈ rows,r.length=k∧∃ fuel x,DataW.trod enc P W 0 (λ_=>true) held fuel e r=some x:=by
 obtain ⟨a,len,cap,rfl⟩:=okWide_slice ht hval
 obtain ⟨fuel,hf⟩:=hd
 obtain ⟨a',cap',rows,h1,_,h2,h3⟩:=xt ht hc hk hf
 have h1':[Value.slice a len cap]=[.slice a' rows.length cap']:=h1
 simp at h1'
 obtain ⟨rfl,rfl,rfl⟩:=h1'
 exact ⟨_,_,_,rfl,h2,h3⟩
theorem zf {H:Type} {enc:TypeId×Value→H} {P:Program} {W:World} {r:Reach} {b0:Nat} {t e:TypeId} {v:Value} {d:DataW H} {ps:List MemPlace} {held:Bool} (ht:P.underlying t=some (.slice e)) (he:P.underlying e=some (.int .i64)) (hc:P.cellsOf e=1) (hval:Value.okWide P W r b0 t v)
  (hd:DataW.Trod enc P W 0 (λ_=>true) held t v d ps):∃ a cap xs,v=.slice a (List.length xs) cap∧Rd W a (is xs)∧∀ x ∈ xs,I64 x:=by
 obtain ⟨a,cap,rows,rfl,h1,h2⟩:=ze ht hc (by omega) hval hd
 have hint:∀ r ∈ rows,∃ n,r=[.int .i64 n]∧I64 n:=by
  intro r hr
  obtain ⟨_,fuel,x,hx⟩:=h2 r hr
  obtain ⟨n,e,_,w⟩:=DataW.trod_int he hx
  exact ⟨n,e,uF w⟩
 clear h2
 have key:∀ rows:List (List Value),(∀ r ∈ rows,∃ n,r=[Value.int .i64 n]∧I64 n)→∃ xs:List Int,rows.length=xs.length∧rows.flatten=is xs∧∀ x ∈ xs,I64 x:=by
  intro rows
  induction rows with
  |nil=>intro _;exact ⟨[],rfl,rfl,λx hx=>by cases hx⟩
  |cons r rows ih=>
   intro h
   obtain ⟨n,rfl,hn⟩:=h r List.mem_cons_self
   obtain ⟨xs,g1,g2,g3⟩:=ih λr hr=>h r (List.mem_cons_of_mem _ hr)
   refine ⟨n::xs,by simp [g1],by simp [is,g2],λx hx=>?_⟩
   rcases List.mem_cons.1 hx with rfl | hx
   ·exact hn
   ·exact g3 x hx
 obtain ⟨xs,g1,g2,g3⟩:=key rows hint
 exact ⟨a,cap,xs,by rw [g1],by rw [←g2];exact h1,g3⟩
end Go.Proofs.YtegepanmkjemjaaGreat
namespace Go.Proofs.YtegepanmkjemjaaGreat
open Go.Proofs.Tryz
open Go.ChangeShapes Go.WideShapes Go.ChangeAt Go.RowKit Go.Eng
theorem uG {H:Type} {enc:TypeId×Value→H} {P:Program} {w:World} {base:Nat} {spare:Nat→Bool} {held:Bool} {t t' t'' t3 t4:TypeId} {args:Array Value} {ds:List (DataW H)} {ps:List MemPlace} (h:DataW.TrodAll enc P w base spare held [t,t',t'',t3,t4] args.toList ds ps) :
  ∃ v v' v'' v3 v4 d d' d'' d3 d4 p p' p'' p3 p4,args=#[v,v',v'',v3,v4]∧ds=[d,d',d'',d3,d4]∧ps=p++p'++p''++p3++p4∧DataW.Trod enc P w base spare held t v d p∧DataW.Trod enc P w base spare held t' v' d' p'∧DataW.Trod enc P w base spare held t'' v'' d'' p''∧DataW.Trod enc P w base spare held t3 v3 d3 p3∧DataW.Trod enc P w base spare held t4 v4 d4 p4:=by
 obtain ⟨v,vs,d,ds',p,q,hargs,rfl,rfl,hd,hrest⟩:=trodAll_cons h
 obtain ⟨v',vs',d',ds'',p',q',rfl,rfl,rfl,hd',hrest'⟩:=trodAll_cons hrest
 obtain ⟨v'',vs'',d'',dsa,p'',q'',rfl,rfl,rfl,hd'',hrest''⟩:=trodAll_cons hrest'
 obtain ⟨v3,vs3,d3,ds3,p3,q3,rfl,rfl,rfl,hd3,hrest3⟩:=trodAll_cons hrest''
 obtain ⟨v4,vs4,d4,ds4,p4,q4,rfl,rfl,rfl,hd4,hrest4⟩:=trodAll_cons hrest3
 obtain ⟨rfl,rfl,rfl⟩:=trodAll_nil hrest4
 exact ⟨v,v',v'',v3,v4,d,d',d'',d3,d4,p,p',p'',p3,p4,by cases args;simp_all,rfl,by simp,hd,hd',hd'',hd3,hd4⟩
set_option maxRecDepth 100000 in
theorem AF (os:Os) (started:os.Started) (H:Type) (enc:TypeId×Value→H) :
  ReturnsInHanded {} Tryz.checked os 7 .any (Rows.commitFatesSpec.pre6 enc prog f7 Rows.commitFatesRow.domain false) (Rows.commitFatesSpec.post enc prog f7 false true false false):=by
 refine returnsInHanded_of_change (C:=Tryz.checked) Dj started (by kernel_rfl) Tryz.func7
  (ChangeSpec.witness6 (enc:=enc) (C:=Tryz.checked) false ⟨#[],#[.int .i64 0,.int .i64 0,.int .i64 0,.int .i64 0,.slice none 0 0],[]⟩ 8 (by kernel_rfl) (by kernel_rfl) (by kernel_rfl) (by kernel_rfl)) ?_
 intro W base args ds gs before hval0 hW hcnd _
 have hval:∀ (j:Nat) t v,f7.params[j]?=some t→args[j]?=some v→Value.okWide prog W .any base t v:=hval0
 have hW':=hW
 obtain ⟨p,q,hA0,hV,rfl,hfz,hnd⟩:=hW
 have hA:DataW.TrodAll enc prog W 0 (λ_=>true) true f7.params.toList args.toList ds p:=hA0
 rw [Tryz.params7] at hA hval
 obtain ⟨v0,v1,v2,v3,v4,d0,d1,d2,d3,d4,p0,p1,p2,p3,p4,rfl,rfl,rfl,h0,h1,h2,h3,h4⟩:=uG hA
 obtain ⟨rfl,rfl⟩:=trodVars_none hV
 obtain ⟨a0,rfl,_,_,w0⟩:=open_int Tryz.underlying3 (hval 0 _ v0 rfl rfl) h0
 obtain ⟨a1,rfl,_,_,w1⟩:=open_int Tryz.underlying3 (hval 1 _ v1 rfl rfl) h1
 obtain ⟨a2,rfl,_,_,w2⟩:=open_int Tryz.underlying3 (hval 2 _ v2 rfl rfl) h2
 obtain ⟨a3,rfl,_,_,w3⟩:=open_int Tryz.underlying3 (hval 3 _ v3 rfl rfl) h3
 obtain ⟨a4,c4,l4,rfl,r4,w4⟩:=zf Tryz.underlying22 Tryz.underlying3 (by kernel_rfl) (hval 4 _ v4 rfl rfl) h4
 refine (rO AD W (uF w0) (uF w1) (uF w2) (uF w3) r4 w4).mono λe W' ⟨x,he,hx,hg⟩=>?_
 subst he hx
 refine ⟨_,rfl,AE hW' hg (by rw [Tryz.params7];decide +kernel) rfl rfl (tb:=4) (by kernel_rfl) Tryz.underlying4⟩
theorem ft_1:Rows.commitFatesRow.wf (OpenSpec.ofChange Rows.commitFatesSpec)=true:=by kernel_rfl
theorem ft_2:mapsRowed prog=true:=by kernel_rfl
theorem ft_3:f7.params.all (prog.readableRec ·)=true:=by kernel_rfl
theorem ft_4:namedTie prog Rows.commitFatesRow.named Rows.commitFatesSpec.vars=true:=by kernel_rfl
theorem ft_5:(Rows.commitFatesRow.inPlace == prog.inPlace 7)=true:=by kernel_rfl
theorem ft_6:(Rows.commitFatesRow.unfollowed == prog.unfollowed 7)=true:=by kernel_rfl
theorem ft_7:(Rows.commitFatesRow.recurses == prog.recurses 7)=true:=by kernel_rfl
theorem ft_8:(Rows.commitFatesRow.named == prog.varsNamed 7)=true:=by kernel_rfl
theorem AG:joinedFacts prog 7 f7 Rows.commitFatesSpec Rows.commitFatesRow=true:=by
 unfold joinedFacts
 rw [ft_1,laid,ft_2,ft_3,ft_4,ft_5,ft_6,ft_7,ft_8]
 kernel_rfl
theorem CX:Rows.commitFatesRow.holds Tryz.pinned (OpenSpec.ofChange Rows.commitFatesSpec):=
 OpenClaim.holds_of_wide 7 f7 rfl rfl rfl rfl rfl rfl rfl ⟨rfl,rfl,rfl,rfl,rfl⟩ rfl rfl rfl rfl rfl (by kernel_rfl) Tryz.func7 AG
  (of_decide_eq_true (by kernel_rfl)) (by unfold Func.isWrapper;first | (rw [if_pos (by decide +kernel)];kernel_rfl) | (rw [if_neg (by decide +kernel)];exact ⟨rfl,rfl⟩))
  (λos started H enc _=>AF os started H enc)
theorem commitFates_holds:Rows.CommitFatesSaid:=CX
#print axioms commitFates_holds
end Go.Proofs.YtegepanmkjemjaaGreat
