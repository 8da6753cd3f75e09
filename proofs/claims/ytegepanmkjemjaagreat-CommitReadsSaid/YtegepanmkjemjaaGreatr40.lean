import Derived.Test.YtegepanmkjemjaaGreatr37
import Derived.Test.YtegepanmkjemjaaGreatr38
import Derived.Test.YtegepanmkjemjaaGreatr39
import Derived.Test.YtegepanmkjemjaaGreatr02
import Derived.Test.YtegepanmkjemjaaGreatRows
import Derived.WalkKit
import Derived.ProofKit
import Derived.OpenShut
import Derived.Deep.Slices
import Derived.Test.YtegepanmkjemjaaGreatr36
set_option linter.unusedVariables false
namespace Go.Proofs.YtegepanmkjemjaaGreat
open Go.Eng C12
theorem CN {n w:Nat} (hn:1≤n∧n≤3) (hw:w<14):rdA n w=true:=by
 obtain rfl | rfl | rfl:n=1∨n=2∨n=3:=by omega
 ·exact rdG1 hw
 ·exact rdG2 hw
 ·exact rdG3 hw
theorem Af:vj:=λn r w hn hr hw=>Da hn (CN hn hw) hr
end Go.Proofs.YtegepanmkjemjaaGreat
namespace Go.Proofs.YtegepanmkjemjaaGreat
open Go.Proofs.Tryz
open Go.ChangeShapes Go.WideShapes Go.ChangeAt Go.RowKit
theorem laid:laidOutB prog=true:=by kernel_rfl
theorem Db:ownKnob prog.godebug=none:=by kernel_rfl
theorem ph {H:Type} {enc:TypeId×Value→H} {W W':World} {sp:Nat→Bool}:∀ {ts:List TypeId} {vs:List Value} {ds:List (DataW H)} {ps:List MemPlace},(∀ t ∈ ts,prog.readableRec t=true∧t<prog.types.size)→DataW.TrodAll enc prog W 0 (λ_=>true) true ts vs ds ps→
  (∀ p ∈ ps,W.sameAt W' p)→(∀ p ∈ ps,sp p.block=true)→DataW.TrodAll enc prog W' 0 sp true ts vs ds ps
 | [],_,_,_,_,h,_,_=>by
  obtain ⟨rfl,rfl,rfl⟩:=trodAll_nil h
  exact trodAll_mk0
 |t::ts,_,_,_,ht,h,hs,hp=>by
  obtain ⟨v,vs1,d,ds1,a,b,rfl,rfl,rfl,h1,h2⟩:=trodAll_cons h
  refine trodAll_cons_mk (WideElems.Trod_stays laid (ht t List.mem_cons_self).1 (ht t List.mem_cons_self).2 h1 (λp hq=>hs p (List.mem_append_left _ hq)) λp hq=>hp p (List.mem_append_left _ hq)) ?_
  exact ph (λt h=>ht t (List.mem_cons_of_mem _ h)) h2 (λp hq=>hs p (List.mem_append_right _ hq)) λp hq=>hp p (List.mem_append_right _ hq)
theorem Ag {H:Type} {enc:TypeId×Value→H} {f:Func} {s:ChangeSpec} {apart:Bool} {W W':World} {args:Array Value} {ds gs:List (DataW H)} {before:List MemPlace} {tb:TypeId} (hW:DataW.Whole enc prog f.params.toList s.vars apart W args.toList ds gs before)
  (hb:Go.Eng.New W W') (hts:∀ t ∈ f.params.toList,prog.readableRec t=true∧t<prog.types.size) (hv:s.vars=[]) (hfn:s.fn H (ds++gs)={ results:=[.lit (.bool true)],args:=ds }) (hr:f.resultTypes=#[tb]) (htb:prog.underlying tb=some .bool) :
  s.post enc prog f apart true false false W args (.bool true) W':=by
 have hB:Go.RowKit.Below W.heap.size W W':=hb.below (Nat.le_refl _) λ_ _ h=>h
 have hlt:=hW.lt
 have hW0:=hW
 obtain ⟨p,q,hA,hV,rfl,hfz,hnd⟩:=hW
 refine ⟨ds,gs,p++q,[],p,[],hW0,?_,?_,?_,hB.frame _,λh=>by cases h⟩
 ·rw [hfn,hr]
  exact trodAll_cons_mk (shut_bool htb _) trodAll_mk0
 ·rw [hfn]
  exact ph hts hA (λx hx=>hB.same (hlt x (List.mem_append_left _ hx))) λx hx=>by simpa using hlt x (List.mem_append_left _ hx)
 ·rw [hfn,hv]
  rfl
theorem yL {n:Int} (h:(Lit.int .i64 n).wf=true):I64 n:=by have:=bounds_i64 h;exact ⟨this.1,by omega⟩
end Go.Proofs.YtegepanmkjemjaaGreat
namespace Go.Proofs.YtegepanmkjemjaaGreat
open Go.ChangeShapes Go.WideShapes Go.ChangeAt Go.RowKit Go.Eng
end Go.Proofs.YtegepanmkjemjaaGreat
namespace Go.Proofs.YtegepanmkjemjaaGreat
open Go.Proofs.Tryz
open Go.ChangeShapes Go.WideShapes Go.ChangeAt Go.RowKit Go.Eng
set_option maxRecDepth 100000 in
theorem Ah (os:Os) (started:os.Started) (H:Type) (enc:TypeId×Value→H) :
  ReturnsInHanded {} Tryz.checked os 6 .any (Rows.commitReadsSpec.pre6 enc prog f6 Rows.commitReadsRow.domain false) (Rows.commitReadsSpec.post enc prog f6 false true false false):=by
 refine returnsInHanded_of_change (C:=Tryz.checked) Db started (by kernel_rfl) Tryz.func6
  (ChangeSpec.witness6 (enc:=enc) (C:=Tryz.checked) false ⟨#[],#[.int .i64 0,.int .i64 0,.int .i64 0,.bool false],[]⟩ 8 (by kernel_rfl) (by kernel_rfl) (by kernel_rfl) (by kernel_rfl)) ?_
 intro W base args ds gs before hval0 hW hcnd _
 have hval:∀ (j:Nat) t v,f6.params[j]?=some t→args[j]?=some v→Value.okWide prog W .any base t v:=hval0
 have hW':=hW
 obtain ⟨p,q,hA0,hV,rfl,hfz,hnd⟩:=hW
 have hA:DataW.TrodAll enc prog W 0 (λ_=>true) true f6.params.toList args.toList ds p:=hA0
 rw [Tryz.params6] at hA hval
 obtain ⟨v0,v1,v2,v3,d0,d1,d2,d3,p0,p1,p2,p3,rfl,rfl,rfl,h0,h1,h2,h3⟩:=trodAll_four hA
 obtain ⟨rfl,rfl⟩:=trodVars_none hV
 obtain ⟨a0,rfl,_,_,w0⟩:=open_int Tryz.underlying3 (hval 0 _ v0 rfl rfl) h0
 obtain ⟨a1,rfl,_,_,w1⟩:=open_int Tryz.underlying3 (hval 1 _ v1 rfl rfl) h1
 obtain ⟨a2,rfl,_,_,w2⟩:=open_int Tryz.underlying3 (hval 2 _ v2 rfl rfl) h2
 obtain ⟨b3,rfl,_⟩:=open_bool Tryz.underlying4 (hval 3 _ v3 rfl rfl) h3
 refine (rE Af W (yL w0) (yL w1) (yL w2)).mono λe W' ⟨x,he,hx,hg⟩=>?_
 subst he hx
 refine ⟨_,rfl,Ag hW' hg (by rw [Tryz.params6];decide +kernel) rfl rfl (tb:=4) (by kernel_rfl) Tryz.underlying4⟩
theorem rd_1:Rows.commitReadsRow.wf (OpenSpec.ofChange Rows.commitReadsSpec)=true:=by kernel_rfl
theorem rd_2:mapsRowed prog=true:=by kernel_rfl
theorem rd_3:f6.params.all (prog.readableRec ·)=true:=by kernel_rfl
theorem rd_4:namedTie prog Rows.commitReadsRow.named Rows.commitReadsSpec.vars=true:=by kernel_rfl
theorem rd_5:(Rows.commitReadsRow.inPlace == prog.inPlace 6)=true:=by kernel_rfl
theorem rd_6:(Rows.commitReadsRow.unfollowed == prog.unfollowed 6)=true:=by kernel_rfl
theorem rd_7:(Rows.commitReadsRow.recurses == prog.recurses 6)=true:=by kernel_rfl
theorem rd_8:(Rows.commitReadsRow.named == prog.varsNamed 6)=true:=by kernel_rfl
theorem Ai:joinedFacts prog 6 f6 Rows.commitReadsSpec Rows.commitReadsRow=true:=by
 unfold joinedFacts
 rw [rd_1,laid,rd_2,rd_3,rd_4,rd_5,rd_6,rd_7,rd_8]
 kernel_rfl
theorem CO:Rows.commitReadsRow.holds Tryz.pinned (OpenSpec.ofChange Rows.commitReadsSpec):=
 OpenClaim.holds_of_wide 6 f6 rfl rfl rfl rfl rfl rfl rfl ⟨rfl,rfl,rfl,rfl,rfl⟩ rfl rfl rfl rfl rfl (by kernel_rfl) Tryz.func6 Ai
  (of_decide_eq_true (by kernel_rfl)) (by unfold Func.isWrapper;first | (rw [if_pos (by decide +kernel)];kernel_rfl) | (rw [if_neg (by decide +kernel)];exact ⟨rfl,rfl⟩))
  (λos started H enc _=>Ah os started H enc)
theorem commitReads_holds:Rows.CommitReadsSaid:=CO
#print axioms commitReads_holds
end Go.Proofs.YtegepanmkjemjaaGreat
