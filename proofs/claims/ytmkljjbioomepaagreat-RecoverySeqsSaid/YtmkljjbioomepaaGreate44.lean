import Derived.Test.YtmkljjbioomepaaGreate43
set_option linter.all false
set_option maxHeartbeats 4000000
set_option maxRecDepth 100000
namespace Go.Proofs.YtmkljjbioomepaaGreat
open Go.Proofs.Tryz Go.bn
section
open Go.ChangeShapes Go.WideShapes Go.ChangeAt Go.RowKit
theorem IQ {H:Type} {enc:TypeId×a0->H} {P:Program} {w:al} {base:Nat} {spare:Nat->Bool} {held:Bool} {t0 t1 t2 t3:TypeId} {args:Array a0} {ds:List (DataW H)} {cn:List MemPlace} (h:DataW.TrodAll enc P w base spare held [t0,t1,t2,t3] args.toList ds cn) :
  ∃ v0 v1 v2 d d0 d1 d2 d3 a gr b c,args=#[v0,v1,v2,d]/\ds=[d0,d1,d2,d3]/\cn=a++gr++b++c/\DataW.Trod enc P w base spare held t0 v0 d0 a/\DataW.Trod enc P w base spare held t1 v1 d1 gr/\DataW.Trod enc P w base spare held t2 v2 d2 b/\DataW.Trod enc P w base spare held t3 d d3 c:=by
 obtain ⟨v0,eG,d0,p,a,y,e,rfl,rfl,f,k⟩:=trodAll_cons h;obtain ⟨v1,t,d1,q,gr,z,rfl,rfl,rfl,g,l⟩:=trodAll_cons k;obtain ⟨v2,u,d2,r,b,A,rfl,rfl,rfl,i,n⟩:=trodAll_cons l;obtain ⟨d,x,d3,s,c,B,rfl,rfl,rfl,j,o⟩:=trodAll_cons n;obtain ⟨rfl,rfl,rfl⟩:=trodAll_nil o;exact ⟨v0,v1,v2,d,d0,d1,d2,d3,a,gr,b,c,by cases args;simp_all,rfl,by simp,f,g,i,j⟩
theorem La (os:Os) (started:os.Started) (H:Type) (enc:TypeId×a0->H) :
  ReturnsInHanded {} Tryz.checked os 8 .any (Rows.recoverySeqsSpec.pre6 enc prog f8 Rows.recoverySeqsRow.domain false) (Rows.recoverySeqsSpec.post enc prog f8 false true false false):=by
 refine returnsInHanded_of_change (C:=Tryz.checked) Oh started (by kernel_rfl) Tryz.func8
  (ChangeSpec.witness6 (enc:=enc) (C:=Tryz.checked) false ⟨#[],#[.int .i64 0,.slice none 0 0,.int .i64 0,.slice none 0 0],[]⟩ 8 (by kernel_rfl) (by kernel_rfl) (by kernel_rfl) (by kernel_rfl)) ?_
 intro W base args ds gs before b cB g _;have a:∀ (j:Nat) t v,f8.params[j]?=some t->args[j]?=some v->Value.okWide prog W .any base t v:=b;have d:=cB;obtain ⟨p,q,c,n,rfl,o,s⟩:=cB;have f:DataW.TrodAll enc prog W 0 (λ_=>true) true f8.params.toList args.toList ds p:=c;rw [Tryz.params8] at f a;obtain ⟨v0,v1,v2,y,d0,d1,d2,d3,J,gr,K,L,rfl,rfl,rfl,h,i,k,l⟩:=IQ f;obtain ⟨rfl,rfl⟩:=trodVars_none n;obtain ⟨B,rfl,_,_,w0⟩:=open_int Tryz.underlying3 (a 0 _ v0 rfl rfl) h;obtain ⟨D,b8,b6,rfl,r1,w1⟩:=AG Tryz.underlying22 Tryz.underlying3 (by kernel_rfl) (a 1 _ v1 rfl rfl) i;obtain ⟨E,rfl,_,_,z⟩:=open_int Tryz.underlying3 (a 2 _ v2 rfl rfl) k;obtain ⟨F,G,I,rfl,w,A⟩:=AG Tryz.underlying22 Tryz.underlying3 (by kernel_rfl) (a 3 _ y rfl rfl) l;refine (TU W (x3 w0) r1 w1 (x3 z) w A).mono λe W' ⟨x,he,u,r⟩=>?_
 subst he u;refine ⟨_,rfl,K' d r (by rw [Tryz.params8];decide +kernel) rfl rfl (tb:=4) (by kernel_rfl) Tryz.underlying4⟩
theorem Ot:Rows.recoverySeqsRow.wf (OpenSpec.ofChange Rows.recoverySeqsSpec)=true:=by kernel_rfl
theorem Ou:mapsRowed prog=true:=by kernel_rfl
theorem Ov:f8.params.all (prog.readableRec ·)=true:=by kernel_rfl
theorem Ow:namedTie prog Rows.recoverySeqsRow.named Rows.recoverySeqsSpec.vars=true:=by kernel_rfl
theorem Ox:(Rows.recoverySeqsRow.inPlace == prog.inPlace 8)=true:=by kernel_rfl
theorem Oy:(Rows.recoverySeqsRow.unfollowed == prog.unfollowed 8)=true:=by kernel_rfl
theorem Oz:(Rows.recoverySeqsRow.recurses == prog.recurses 8)=true:=by kernel_rfl
theorem OA:(Rows.recoverySeqsRow.named == prog.varsNamed 8)=true:=by kernel_rfl
theorem Lb:joinedFacts prog 8 f8 Rows.recoverySeqsSpec Rows.recoverySeqsRow=true:=by unfold joinedFacts;rw [Ot,laid,Ou,Ov,Ow,Ox,Oy,Oz,OA];kernel_rfl
theorem Nx:Rows.recoverySeqsRow.holds Tryz.pinned (OpenSpec.ofChange Rows.recoverySeqsSpec):=
 OpenClaim.holds_of_wide 8 f8 rfl rfl rfl rfl rfl rfl rfl ⟨rfl,rfl,rfl,rfl,rfl⟩ rfl rfl rfl rfl rfl (by kernel_rfl) Tryz.func8 Lb
  (of_decide_eq_true (by kernel_rfl)) (by unfold Func.isWrapper;first | (rw [if_pos (by decide +kernel)];kernel_rfl) | (rw [if_neg (by decide +kernel)];exact ⟨rfl,rfl⟩))
  (λos started H enc _=>La os started H enc)
theorem recoverySeqs_holds:Rows.RecoverySeqsSaid:=Nx
#print axioms recoverySeqs_holds
end
end Go.Proofs.YtmkljjbioomepaaGreat
