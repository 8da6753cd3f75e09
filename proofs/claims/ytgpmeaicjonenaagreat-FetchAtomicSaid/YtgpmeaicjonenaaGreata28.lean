import Derived.Test.YtgpmeaicjonenaaGreata27
set_option linter.unusedVariables false
namespace Go.Proofs.YtgpmeaicjonenaaGreat
open Go.Proofs.Tryz
open Go.Eng
structure TW (A:Nat→Prop) (χ:Nat→Tag) (w:World) (fb:Nat) (L:Nat→Prop) (u:World) (B:Nat→Prop) (ξ:Nat→Tag) (X:FabX):Prop where
 next:Next A B χ ξ w u
 fab:aZ (λk=>B k∨L k) ξ u fb X
 loc:∀ k,L k→w.heap.size≤k∧k<u.heap.size∧ξ k=.imm
theorem TW.start {A:Nat→Prop} {χ:Nat→Tag} {w w2:World} {fb:Nat} {X:FabX} (h:aZ A χ w fb X) (hn:New w w2) {L:Nat→Prop} (hL:∀ k,L k→w.heap.size≤k∧k<w2.heap.size):TW A χ w fb L w2 A χ X:=by
 refine ⟨h.refl hn,?_,λk hk=>⟨(hL k hk).1,(hL k hk).2,h.fresh (hL k hk).1⟩⟩
 refine (h.widen hn).recolor (λk hk=>?_) λk hk=>.inl (h.avoid k hk)
 rcases hk with hk | hk
 ·exact .inl hk
 ·exact .inr (hL k hk)
theorem TW.op {A:Nat→Prop} {χ:Nat→Tag} {w u u':World} {fb:Nat} {L B:Nat→Prop} {ξ:Nat→Tag} {X:FabX} (t:TW A χ w fb L u B ξ X) {F:Fab} {K:(Nat→Prop)→Prop} (p:dE (λk=>B k∨L k) ξ u fb F u' K) :
  ∃ B' ξ' X',TW A χ w fb L u' B' ξ' X'∧X'.pure=F∧K (λk=>B' k∨L k)∧Keep (λk=>B k∨L k) u u'∧(∀ k,k<u.heap.size→B' k∨L k→B k∨L k)∧(∀ k,L k→u'.heap[k]?=u.heap[k]?):=by
 obtain ⟨A',ξ',X',n,hF,hX,hK⟩:=p
 have hA:A'=λk=>iK A χ ξ' w k∨L k:=by
  funext k
  apply propext
  rw [n.iff k]
  constructor
  ·rintro (h1 | ⟨h1,h2 | h2,h3⟩)
   ·exact .inl (.inl h1)
   ·rcases (t.next.iff k).1 h2 with h4 | h4
    ·exact absurd h3 h4
    ·exact .inl (.inr h4)
   ·exact .inr h2
  ·rintro ((h1 | ⟨h1,h2,h3⟩) | h1)
   ·exact .inl h1
   ·refine .inr ⟨Nat.lt_of_lt_of_le h1 t.next.keep.size,.inl ((t.next.iff k).2 (.inr ⟨h1,h2,h3⟩)),?_⟩
    by_cases hc:ξ k=.imm
    ·exact hc
    ·exact absurd h3 (t.next.grow k h1 hc)
   ·obtain ⟨_,h2,h3⟩:=t.loc k h1
    exact .inr ⟨h2,.inr h1,h3⟩
 have hkB:Keep (λk=>B k∨L k) u u':=n.keep.mono λk _ hc=>t.fab.avoid k hc
 refine ⟨iK A χ ξ' w,ξ',X',⟨⟨t.next.keep.trans n.keep λk hk hc=>t.next.grow k hk hc,λk hk hc=>t.next.grow k hk (n.grow k (Nat.lt_of_lt_of_le hk t.next.keep.size) hc),λk=>Iff.rfl⟩,hA▸hF,λk hk=>?_⟩,hX,hA▸hK,hkB,λk hk hc=>?_,λk hk=>?_⟩
 ·obtain ⟨h1,h2,h3⟩:=t.loc k hk
  refine ⟨h1,Nat.lt_of_lt_of_le h2 n.keep.size,?_⟩
  by_cases hc:ξ' k=.imm
  ·exact hc
  ·exact absurd h3 (n.grow k h2 hc)
 ·have hc':A' k:=by rw [hA];exact hc
  rcases (n.iff k).1 hc' with h4 | h4
  ·exact t.fab.avoid k (n.grow k hk h4)
  ·exact h4.2.1
 ·obtain ⟨_,h2,h3⟩:=t.loc k hk
  exact n.keep.block k h2 λhc=>hc h3
theorem TW.local {A:Nat→Prop} {χ:Nat→Tag} {w u u':World} {fb:Nat} {L B:Nat→Prop} {ξ:Nat→Tag} {X:FabX} (t:TW A χ w fb L u B ξ X) {S:Nat→Prop} (hk:Keep S u u') (hS:∀ k,S k→L k):TW A χ w fb L u' B ξ X:=by
 refine ⟨⟨t.next.keep.trans hk λk hlt hs=>?_,t.next.grow,t.next.iff⟩,t.fab.other hk λk hs=>⟨.inr (hS k hs),(t.loc k (hS k hs)).2.2⟩,λk hl=>⟨(t.loc k hl).1,Nat.lt_of_lt_of_le (t.loc k hl).2.1 hk.size,(t.loc k hl).2.2⟩⟩
 have:=(t.loc k (hS k hs)).1
 omega
theorem TW.new {A:Nat→Prop} {χ:Nat→Tag} {w u u':World} {fb:Nat} {L B:Nat→Prop} {ξ:Nat→Tag} {X:FabX} (t:TW A χ w fb L u B ξ X) (hn:New u u'):TW A χ w fb L u' B ξ X:=
 t.local hn λ_ h=>h.elim
theorem TW.done {A:Nat→Prop} {χ:Nat→Tag} {w u:World} {fb:Nat} {L B:Nat→Prop} {ξ:Nat→Tag} {X:FabX} (t:TW A χ w fb L u B ξ X) {K:(Nat→Prop)→Prop} (hK:K B):dE A χ w fb X.pure u K:=
 ⟨B,ξ,X,t.next,t.fab.recolor (λk hk=>.inl hk) (λk hk=>(t.next.iff k).2 (.inl hk)),rfl,hK⟩
theorem Off.keep {A A':Nat→Prop} {w:World} {a:Option Addr} {xs:List Value} (hr:Rd w a xs) (ho:xs=[]∨Off A a) (hM:∀ k,k<w.heap.size→A' k→A k):xs=[]∨Off A' a:=by
 rcases ho with ho | ho
 ·exact .inl ho
 ·by_cases hx:xs=[]
  ·exact .inl hx
  ·refine .inr ?_
   cases a with
   |none=>trivial
   |some a=>
    intro hm
    exact ho (hM _ (hr.lt hx) hm)
theorem lr.keep {A A':Nat→Prop} {w w':World} {a:Option Addr} {G:List (List Done)} (h:lr A w a G) (hk:Keep A w w') (hM:∀ k,k<w.heap.size→A' k→A k):lr A' w' a G:=by
 obtain ⟨rows,hl,hr,ho,hd⟩:=h
 refine ⟨rows,hl,hr.keep hk ho,Off.keep hr ho hM,λi r ds h5 h6=>?_⟩
 obtain ⟨h1,h2,h3,h4⟩:=hd i r ds h5 h6
 exact ⟨h1.keep hk h2,Off.keep h1 h2 hM,h3.keep hk hM,h4⟩
abbrev TSS:TypeId:=42
abbrev TSD:TypeId:=112
theorem vY (rows:List Row):∀ u ∈ pQ rows,single u=true:=by
 intro u hu
 simp only [pQ,List.mem_map] at hu
 obtain ⟨r,_,rfl⟩:=hu
 rfl
theorem Cf {B:Nat→Prop} {z:World} {ga:Option Addr} {gc:Nat} {G:List (List Done)} (hg:lr B z ga G) (hl:G.length≤1000000) {b:Nat} {raw:List aY} {ds:List Done} {c:Nat} (hb:Blk z b (j1 raw).flatten TD) (hds:Ds B z raw ds) (hnb:¬ B b) (hdl:ds.length≤1024) (hlow:∀ k,B k→k<z.heap.size) {n:Nat} (hn:n=raw.length)
  {K:Nat→Option Addr→Nat→Nat→World→Prop} (hk:∀ b3 ap cap z',z.heap.size≤b3→lr B z' ap (G++[ds])→G.length+1≤cap→New z z'→K b3 ap (G.length+1) cap z') :
  ∃ (ap:Option Addr) (ap_len ap_cap:Nat),∃ w9,(Builtin.append_ #[TSS,TSS] TSS #[(.slice none 0 0),(.slice ga G.length gc)]).run prog z=.ok (.slice ap ap_len ap_cap) w9∧∀ b3 w10,b3=w9.heap.size→w10=w9.alloc (.cells #[.slice (some ⟨b,0,none⟩) n c] TSD)→
   ∃ (ap1:Option Addr) (ap1_len ap1_cap:Nat),∃ w11,(Builtin.append_ #[TSS,TSS] TSS #[(.slice ap ap_len ap_cap),(.slice (some ⟨b3,0,none⟩) 1 1)]).run prog w10=.ok (.slice ap1 ap1_len ap1_cap) w11∧K b3 ap1 ap1_len ap1_cap w11:=by
 obtain ⟨inf,hi,hz,hsz,hby⟩:=iF (T:=TSD) (z:=.slice none 0 0) (n:=1) (m:=24) (by kernel_rfl)
 obtain ⟨rows,hrl,hr,ho,hd⟩:=hg
 have hon:Owns z TSD inf.size none 0 0 []:=Owns.nil _ _ _
 have hrv:(pQ rows).length=G.length:=by simp [pQ,hrl]
 obtain ⟨ap,apc,z9,hrun,hown,hk9,hap⟩:=Owns.append (P:=prog) (t:=TSS) (ty:=TSS) Tryz.underlying42 hi hz (by rw [hsz];rfl) (by omega) hon (s:=ga) (m:=G.length) (c:=gc) (news:=pQ rows) (by rw [hsz,hrv];omega) hr (vY rows) (by omega) (by rw [hby];omega)
 have hn9:New z z9:=hk9.mono λk _ hb=>by obtain ⟨o,ho⟩:=hb;cases ho
 have hfr9:∀ k,isB ap k→z.heap.size≤k:=λk hk=>by
  rcases hap with e | e
  ·rw [e] at hk;obtain ⟨o,ho⟩:=hk;cases ho
  ·rw [e] at hk;obtain ⟨o,ho⟩:=hk;simp at ho <;> omega
 refine ⟨ap,0+G.length,apc,z9,hrun,?_⟩
 rw [Nat.zero_add,List.nil_append] at hown
 rw [Nat.zero_add]
 refine push_k Tryz.underlying42 hi hz (by rw [hsz];rfl) (by omega) hown (vs:=[.slice (some ⟨b,0,none⟩) n c]) (by rw [hsz];rfl) (by intro v hv;simp at hv;subst hv;rfl) (by omega) (by omega) ?_
 intro b3 ap1 cap1 z11 hb3 ho11 hk11 hap1
 have hn11:New z z11:=pk hn9 hk11 hfr9
 have hs9:=hn9.size
 refine hk b3 ap1 cap1 z11 (by omega) ?_ ho11.le hn11
 have hfr11:∀ k,isB ap1 k→z.heap.size≤k:=λk hk=>by
  rcases hap1 k hk with h1 | h1
  ·exact hfr9 k h1
  ·omega
 have hrows:pQ rows++[.slice (some ⟨b,0,none⟩) n c]=pQ (rows++[⟨some ⟨b,0,none⟩,c,raw⟩]):=by simp [pQ,hn]
 have hrd:Rd z11 ap1 (pQ (rows++[⟨some ⟨b,0,none⟩,c,raw⟩])):=by rw [←hrows];exact ho11.rd
 refine ⟨rows++[⟨some ⟨b,0,none⟩,c,raw⟩],by simp [hrl],hrd,lD hrd λk hk hb=>?_,λi r es h5 h6=>?_⟩
 ·have h1:=hfr11 k hk
  have h2:=hlow k hb
  omega
 ·rw [List.getElem?_append] at h5 h6
  rw [hrl] at h5
  split at h5
  ·rename_i hlt
   rw [if_pos hlt] at h6
   obtain ⟨h1,h2,h3,h4⟩:=hd i r es h5 h6
   exact ⟨h1.new hn11,h2,h3.keep (Keep.of_new hn11) (λ_ _ h=>h),h4⟩
  ·rename_i hlt
   rw [if_neg hlt] at h6
   have hi0:i - G.length=0:=by
    have:=(List.getElem?_eq_some_iff.1 h5).1
    simp at this <;> omega
   rw [hi0] at h5 h6
   simp at h5 h6
   subst h5 h6
   refine ⟨eQ (New.blk hn11 hb) (by rw [List.drop_zero];exact List.take_of_length_le (Nat.le_refl _)),.inr hnb,hds.keep (Keep.of_new hn11) (λ_ _ h=>h),hdl⟩
end Go.Proofs.YtgpmeaicjonenaaGreat
namespace Go.Proofs.YtgpmeaicjonenaaGreat
open Go.Eng
def jU (C:Comp):Nat:=if C.alive then 1 else 0
def Fab.al (F:Fab):Nat:=(F.clients.map jU).sum
def OB (F:Fab):Prop:=F.orphans.length+5 * F.al≤1000
theorem Av:∀ {cs:List Comp} {i:Nat} {C C':Comp},cs[i]?=some C→((cs.set i C').map jU).sum+jU C=(cs.map jU).sum+jU C'
 | [],i,C,C',h=>by simp at h
 |a::cs,0,C,C',h=>by simp at h;subst h;simp;omega
 |a::cs,i+1,C,C',h=>by
  have:=Av (cs:=cs) (i:=i) (C:=C) (C':=C') (by simpa using h)
  simp at this ⊢
  omega
structure Fine (F:Fab):Prop where
 good:Good F
 ob:OB F
theorem Fine.le {F:Fab} (h:Fine F):F.orphans.length≤1000:=by have:=h.ob;unfold OB at this;omega
theorem OB.setC {F:Fab} (h:OB F) {i:Nat} {C C':Comp} (hc:F.clients[i]?=some C) (ha:C'.alive=C.alive):OB { F with clients:=F.clients.set i C' }:=by
 have:=Av (C':=C') hc
 have e:jU C'=jU C:=by unfold jU;rw [ha]
 unfold OB Fab.al at *
 dsimp only
 omega
theorem Fine.take {F:Fab} (h:Fine F) (c:Int):Fine (F.take c).2:=by
 refine ⟨h.good.take c,?_⟩
 unfold Fab.take
 cases hc:F.cl c with
 |none=>exact h.ob
 |some C=>
  obtain ⟨h0,h1⟩:=Fab.cl_some hc
  dsimp only
  split
  ·exact h.ob
  ·cases hb:C.batch with
   |none=>exact h.ob
   |some ds=>
    dsimp only
    split
    ·exact h.ob
    ·exact h.ob.setC h1 rfl
theorem Fine.post {F:Fab} (h:Fine F) (c:Int) (vs:List Verb):Fine (F.post c vs).2:=by
 refine ⟨h.good.post c vs,?_⟩
 unfold Fab.post
 cases hc:F.cl c with
 |none=>exact h.ob
 |some C=>
  obtain ⟨h0,h1⟩:=Fab.cl_some hc
  dsimp only
  repeat' split
  all_goals first | exact h.ob | exact h.ob.setC h1 (ml vs 0 C).1
theorem Fine.stepOrphan {F:Fab} (h:Fine F) (i:Nat):Fine (F.stepOrphan i).2:=by
 refine ⟨h.good.stepOrphan i,?_⟩
 unfold Fab.stepOrphan
 split
 ·exact h.ob
 ·split
  ·exact h.ob
  ·dsimp only
   have:=h.ob
   unfold OB Fab.al at *
   dsimp only
   have hl:∀ (x:Pair) (b:Prop) [Decidable b],(if b then F.orphans.eraseIdx i else F.orphans.set i x).length≤F.orphans.length:=by
    intro x b _
    split
    ·exact List.length_eraseIdx_le _ _
    ·simp
   exact Nat.le_trans (Nat.add_le_add_right (hl _ _) _) this
theorem Fine.step {F:Fab} (h:Fine F) (x:eI):Fine (F.step x).2:=by
 refine ⟨h.good.step x,?_⟩
 unfold Fab.step
 split
 ·exact (h.stepOrphan _).ob
 split
 ·exact h.ob
 split
 ·exact h.ob
 rename_i C hc
 obtain ⟨h0,h1⟩:=Fab.cl_some hc
 split
 ·exact h.ob
 split
 ·rename_i l n hl hn
  split
  ·exact h.ob
  dsimp only
  refine OB.setC (F:={ F with nodes:=_ }) h.ob h1 ?_
  cases (l.pair.step n).2.2<;>rfl
 ·exact h.ob
theorem Fine.drop {F:Fab} (h:Fine F) (c:Int):Fine (F.drop c).2:=by
 refine ⟨h.good.drop c,?_⟩
 unfold Fab.drop
 split
 ·exact h.ob
 ·have:=h.ob
  unfold OB Fab.al at *
  exact Nat.le_trans (Nat.add_le_add_right (List.length_eraseIdx_le _ _) _) this
theorem Fine.die {F:Fab} (h:Fine F) (c:Int):Fine (F.die c).2:=by
 refine ⟨h.good.die c,?_⟩
 unfold Fab.die
 cases hc:F.cl c with
 |none=>exact h.ob
 |some C=>
  obtain ⟨h0,h1⟩:=Fab.cl_some hc
  have hC:=h.good.ok.client _ _ h1
  dsimp only
  split
  ·exact h.ob
  ·rename_i ha
   have ha':C.alive=true:=by simpa using ha
   have h2:=Av (C':={ C with alive:=false,lanes:=[],batch:=none,waiting:=0 }) h1
   have e1:jU C=1:=by unfold jU;rw [ha'];rfl
   have e2:jU { C with alive:=false,lanes:=[],batch:=none,waiting:=0 }=0:=rfl
   have e3:((C.lanes.map Lane.pair).filter (λp=>decide (0<p.verbs.length))).length≤C.lanes.length:=by
    have:=List.length_filter_le (λp:Pair=>decide (0<p.verbs.length)) (C.lanes.map Lane.pair)
    simpa using this
   have e4:C.lanes.length≤5:=by rw [hC.lanes,ha'];exact h.good.ok.nodes.2
   have:=h.ob
   unfold OB Fab.al at *
   dsimp only
   rw [List.length_append]
   omega
theorem Fine.setN {F:Fab} (h:Fine F) (i:Nat) {n':aP} (hn:n'.words.length=F.lines * 8):Fine { F with nodes:=F.nodes.set i n' }:=⟨h.good.setN i hn,h.ob⟩
theorem Fine.fresh {n c lines:Nat} (hn:1≤n∧n≤5) (hc:1≤c∧c≤6) (hl:98≤lines∧lines≤256):Fine (Fab.fresh n c lines):=by
 refine ⟨Good.fresh hn hc hl,?_⟩
 have:∀ (c:Nat),(((List.range c).map (gI n)).map jU).sum=c:=by
  intro c
  induction c with
  |zero=>rfl
  |succ c ih=>rw [List.range_succ,List.map_append,List.map_append,List.sum_append,ih];rfl
 unfold OB Fab.al
 show 0+5 * (((List.range c).map (gI n)).map jU).sum≤1000
 rw [this]
 omega
def oV (F:Fab) (sch:List Int) (n:Nat):Nat:=if n<sch.length then (sch.getD n 0 % (F.choices.length:Int)).toNat else 0
def rstep (F:Fab) (sch:List Int) (n:Nat):Bool×Fab:=match F.choices[oV F sch n]? with
 |none=>(false,F)
 |some x=>F.step x
theorem Fine.rstep {F:Fab} (h:Fine F) (sch:List Int) (n:Nat):Fine (rstep F sch n).2:=by
 unfold Go.Proofs.YtgpmeaicjonenaaGreat.rstep
 split
 ·exact h
 ·exact h.step _
theorem yW {F:Fab} (h:ue F):F.choices.length≤30+F.orphans.length:=by
 unfold Fab.choices
 rw [List.length_append,kE]
 have h1:=kD (n:=5) 0 F.clients λC hC=>by
  obtain ⟨i,hi⟩:=List.mem_iff_getElem?.1 hC
  have h2:=(h.client i C hi).lanes
  have h3:=h.nodes.2
  split at h2<;>omega
 have h4:=h.clients.2
 omega
theorem D7 {A:Nat→Prop} {χ:Nat→Tag} {w:World} {fb:Nat} {X:FabX} (h:aZ A χ w fb X) (hf:Fine X.pure) {sch:List Int} {sa:Option Addr} {sc:Nat} (hs:Rd w sa (is sch)) (hi:∀ x ∈ sch,I64 x) (n:Nat) :
  Does 40 [ptr fb,.slice sa sch.length sc,.int .i64 n] w λv w'=>v=.bool (rstep X.pure sch n).1∧dE A χ w fb (rstep X.pure sch n).2 w' λ_=>True:=by
 have hor:X.orphans.length≤100000000:=by have:=hf.le;simp [FabX.pure] at this;omega
 refine does Tryz.func40 ?_
 rw [ptr,qm]
 refine aF (zY h hf.good.ok hor) ?_
 rintro v w1 ⟨a,cap,rfl,hch⟩
 have hF1:=h.new hch.new
 refine ⟨_,_,_,rfl,bK (λh0=>?_) (λh0=>?_)⟩
 ·have hnil:X.pure.choices=[]:=List.eq_nil_of_length_eq_zero (by omega)
  have:rstep X.pure sch n=(false,X.pure):=by unfold rstep;rw [hnil];rfl
  rw [this]
  exact ⟨rfl,dE.same h hch.new trivial⟩
 ·refine aH (λhp=>?_) (λhp=>?_)
  ·have hlt:n<sch.length:=by omega
   have hg:sch[n]?=some sch[n]:=List.getElem?_eq_getElem hlt
   have hgi:(is sch)[n]?=some (.int .i64 sch[n]):=by simp [is,hg]
   have hi64:=hi _ (List.mem_of_getElem? hg)
   rcases hs.new hch.new with he | ⟨b,o,rfl,hc⟩
   ·rw [he] at hgi;simp at hgi
   refine bE (by omega) (by omega) ⟨sch[n],by simpa using hc n _ hgi,?_⟩
   have hlen:X.pure.choices.length≤1000000000:=by
    have h1:=hf.le
    have h2:=yW hf.good.ok
    omega
   refine aF (po _ _ _ hi64 (by omega)) ?_
   rintro v w2 ⟨rfl,rfl⟩
   have hpk:0≤sch[n] % (X.pure.choices.length:Int)∧sch[n] % (X.pure.choices.length:Int)<X.pure.choices.length:=⟨Int.emod_nonneg _ (by omega),Int.emod_lt_of_pos _ (by omega)⟩
   rw [if_neg (by omega)]
   refine ⟨_,rfl,?_⟩
   have hrp:oV X.pure sch n=(sch[n] % (X.pure.choices.length:Int)).toNat:=by
    unfold oV
    rw [if_pos hlt,List.getD_eq_getElem?_getD,hg]
    rfl
   have hcx:X.pure.choices[oV X.pure sch n]?=some X.pure.choices[oV X.pure sch n]:=List.getElem?_eq_getElem (by omega)
   have hst:rstep X.pure sch n=X.pure.step X.pure.choices[oV X.pure sch n]:=by unfold rstep;rw [hcx]
   obtain ⟨ba,oa,rfl,hca,_⟩:=hch.own.rd.row (tu _) (by omega) (tv hcx)
   refine bE hpk.1 hpk.2 ?_
   rw [←hrp]
   refine ⟨_,_,_,hca,?_⟩
   refine aF (zX hF1 hf.good.ok X.pure.choices[oV X.pure sch n]) ?_
   rintro v w3 ⟨rfl,hp3⟩
   rw [hst]
   exact ⟨_,rfl,rfl,dE.trans (h.refl hch.new) hp3⟩
  ·have hrp:oV X.pure sch n=0:=by unfold oV;rw [if_neg (by omega)]
   have hcx:X.pure.choices[0]?=some X.pure.choices[0]:=List.getElem?_eq_getElem (by omega)
   have hst:rstep X.pure sch n=X.pure.step X.pure.choices[0]:=by unfold rstep;rw [hrp,hcx]
   obtain ⟨ba,oa,rfl,hca,_⟩:=hch.own.rd.row (tu _) (by omega) (tv hcx)
   refine bE (by omega) (by omega) ?_
   refine ⟨_,_,_,hca,?_⟩
   refine aF (zX hF1 hf.good.ok X.pure.choices[0]) ?_
   rintro v w3 ⟨rfl,hp3⟩
   rw [hst]
   exact ⟨_,rfl,rfl,dE.trans (h.refl hch.new) hp3⟩
structure j8 where
 at_:Int
 kind:Int
 a:Int
def j8.cells (e:j8):List Value:=[.int .i64 e.at_,.int .i64 e.kind,.int .i64 e.a]
def j8.val (e:j8):Value:=.agg e.cells.toArray
structure j8.Ok (e:j8):Prop where
 at_:I64 e.at_
 kind:I64 e.kind
 a:I64 e.a
def Fab.setN (F:Fab) (i:Nat) (f:aP→aP):Fab:=match F.nodes[i]? with
 |none=>F
 |some n=>{ F with nodes:=F.nodes.set i (f n) }
def D8 (n:aP):aP:={ n with down:=true }
def Aw (n:aP):aP:=n.back.1
theorem Ax (n:aP):(Aw n).words.length=n.words.length:=by
 unfold Aw aP.back
 split<;>simp
theorem Fine.setN' {F:Fab} (h:Fine F) (i:Nat) {f:aP→aP} (hf:∀ n,(f n).words.length=n.words.length):Fine (F.setN i f):=by
 unfold Fab.setN
 split
 ·exact h
 ·rename_i n hn
  exact h.setN i (by rw [hf];exact h.good.ok.words n (List.mem_of_getElem? hn))
def Fab.happen (F:Fab) (cs:List Int) (e:j8):Fab:=
 if e.kind % 4=0 then (if cs.length=0 then F else (F.die (cs.getD (e.a % (cs.length:Int)).toNat 0)).2)
 else if e.kind % 4=1 then F.setN (e.a % (F.nodes.length:Int)).toNat D8
 else if e.kind % 4=2 then F.setN (e.a % (F.nodes.length:Int)).toNat Aw
 else (F.drop (e.a % 3)).2
theorem Fine.happen {F:Fab} (h:Fine F) (cs:List Int) (e:j8):Fine (F.happen cs e):=by
 unfold Fab.happen
 split
 ·split
  ·exact h
  ·exact h.die _
 ·split
  ·exact h.setN' _ λ_=>rfl
  ·split
   ·exact h.setN' _ Ax
   ·exact h.drop _
theorem E6 {A:Nat→Prop} {χ:Nat→Tag} {w:World} {fb:Nat} {X:FabX} (h:aZ A χ w fb X) {i:Nat} {x:nm} (hx:X.nodes[i]?=some x):Does 68 [ptr x.b] w λv w'=>v=.bool x.n.back.2∧dE A χ w fb (X.pure.setN i Aw) w' λ_=>True:=by
 refine aF (EH (h.node i x hx).node) ?_
 rintro v w1 ⟨rfl,hn,hk⟩
 obtain ⟨A',nx,hF⟩:=h.setNode hx hk hn
 refine ⟨_,rfl,rfl,A',χ,_,nx,hF,?_,trivial⟩
 have hp:X.pure.nodes[i]?=some x.n:=by simp [FabX.pure,hx]
 unfold Fab.setN
 rw [hp]
 simp [FabX.pure,List.map_set,Aw]
theorem E7 {A:Nat→Prop} {χ:Nat→Tag} {w:World} {fb:Nat} {X:FabX} (h:aZ A χ w fb X) {i:Nat} {x:nm} (hx:X.nodes[i]?=some x):Does 67 [ptr x.b] w λv w'=>v=.tuple #[]∧dE A χ w fb (X.pure.setN i D8) w' λ_=>True:=by
 refine aF (EG (h.node i x hx).node) ?_
 rintro v w1 ⟨rfl,hn,hk⟩
 obtain ⟨A',nx,hF⟩:=h.setNode hx (hk.mono λ_ _ e=>.inl e) hn
 refine ⟨_,rfl,rfl,A',χ,_,nx,hF,?_,trivial⟩
 have hp:X.pure.nodes[i]?=some x.n:=by simp [FabX.pure,hx]
 unfold Fab.setN
 rw [hp]
 simp [FabX.pure,List.map_set,D8]
theorem Ch {A:Nat→Prop} {χ:Nat→Tag} {w:World} {fb:Nat} {X:FabX} (h:aZ A χ w fb X) (hf:Fine X.pure) {cs:List Int} {ca:Option Addr} {cc:Nat} (hs:Rd w ca (is cs)) (hcl:cs.length≤1000) {e:j8} (he:e.Ok) :
  Does 38 [ptr fb,.slice ca cs.length cc,e.val] w λv w'=>v=.tuple #[]∧dE A χ w fb (X.pure.happen cs e) w' λ_=>True:=by
 have hor:X.orphans.length≤100000000:=by have:=hf.le;simp [FabX.pure] at this;omega
 refine does Tryz.func38 ?_
 refine Eq.mpr (oM fb ca cs.length cc e.at_ e.kind e.a w _) ?_
 rintro b1 w1 hb1 hw1
 obtain ⟨hz,hn⟩:=aO hb1 hw1
 clear hw1
 have hF1:=h.new hn
 have hNN:X.pure.nodes.length=X.nodes.length:=jH X
 have hN1:=hf.good.ok.nodes
 rw [hNN] at hN1
 refine ⟨_,hz.cell (i:=1) rfl,?_⟩
 refine aF (po _ _ _ he.kind (by omega)) ?_
 rintro v w2 ⟨rfl,rfl⟩
 rw [if_neg (by omega)]
 unfold Fab.happen
 refine ⟨_,rfl,bK (λh0=>?_) (λh0=>?_)⟩
 ·rw [if_pos h0]
  refine aH (λhp=>?_) (λhp=>?_)
  ·have hc0:¬ cs.length=0:=by omega
   rw [if_neg hc0]
   refine ⟨_,hz.cell (i:=2) rfl,?_⟩
   refine aF (po _ _ _ he.a (by omega)) ?_
   rintro v w3 ⟨rfl,rfl⟩
   rw [if_neg (by omega)]
   have hpk:0≤e.a % (cs.length:Int)∧e.a % (cs.length:Int)<cs.length:=⟨Int.emod_nonneg _ (by omega),Int.emod_lt_of_pos _ (by omega)⟩
   have hlt:(e.a % (cs.length:Int)).toNat<cs.length:=by omega
   have hg:cs[(e.a % (cs.length:Int)).toNat]?=some (cs.getD (e.a % (cs.length:Int)).toNat 0):=by
    rw [List.getD_eq_getElem?_getD,List.getElem?_eq_getElem hlt]
    rfl
   have hgi:(is cs)[(e.a % (cs.length:Int)).toNat]?=some (.int .i64 (cs.getD (e.a % (cs.length:Int)).toNat 0)):=by
    unfold is
    rw [List.getElem?_map,hg]
    rfl
   refine ⟨_,rfl,?_⟩
   rcases hs.new hn with hq | ⟨b,o,rfl,hc⟩
   ·rw [hq] at hgi;simp at hgi
   refine bE hpk.1 hpk.2 ⟨_,by simpa using hc _ _ hgi,?_⟩
   refine aF (FH hF1 hf.good.ok hor _) ?_
   rintro v w4 ⟨rfl,hp4⟩
   exact ⟨_,rfl,rfl,dE.trans (h.refl hn) hp4⟩
  ·have hc0:cs.length=0:=by omega
   rw [if_pos hc0]
   exact ⟨rfl,dE.same h hn trivial⟩
 rw [if_neg h0]
 refine bK (λh1=>?_) (λh1=>?_)
 ·rw [if_pos h1]
  rintro w5 hw5
  have hn5:New w2 w5:=by rw [hw5];exact aU _
  clear hw5
  refine ⟨λz=>New w2 z,hn5,_,λz hz'=>(New.blk hz' hz).cell (i:=2) rfl,?_⟩
  refine aF (ug (hF1.new hn5)) ?_
  rintro v w6 ⟨rfl,rfl⟩
  refine ⟨_,rfl,hn5,?_⟩
  refine aF (po _ _ _ he.a (by omega)) ?_
  rintro v w6 ⟨rfl,rfl⟩
  rw [if_neg (by omega)]
  refine ⟨_,rfl,hn5,?_⟩
  have hpk:0≤e.a % (X.nodes.length:Int)∧e.a % (X.nodes.length:Int)<X.nodes.length:=⟨Int.emod_nonneg _ (by omega),Int.emod_lt_of_pos _ (by omega)⟩
  obtain ⟨i,hi⟩:=Int.eq_ofNat_of_zero_le hpk.1
  rw [hNN]
  rw [hi] at hpk ⊢
  obtain ⟨x,hx⟩:∃ x,X.nodes[i]?=some x:=⟨_,List.getElem?_eq_getElem (by omega)⟩
  refine aF (rX (hF1.new hn5) hx) ?_
  rintro v w6 ⟨rfl,rfl⟩
  refine ⟨_,rfl,hn5,gE rfl ?_⟩
  refine aF (E7 (hF1.new hn5) hx) ?_
  rintro v w7 ⟨rfl,hp7⟩
  exact ⟨rfl,rfl,dE.trans (h.refl (hn.new hn5)) hp7⟩
 rw [if_neg h1]
 refine bK (λh2=>?_) (λh2=>?_)
 ·rw [if_pos h2]
  rintro w5 hw5
  have hn5:New w2 w5:=by rw [hw5];exact aU _
  clear hw5
  refine ⟨λz=>New w2 z,hn5,_,λz hz'=>(New.blk hz' hz).cell (i:=2) rfl,?_⟩
  refine aF (ug (hF1.new hn5)) ?_
  rintro v w6 ⟨rfl,rfl⟩
  refine ⟨_,rfl,hn5,?_⟩
  refine aF (po _ _ _ he.a (by omega)) ?_
  rintro v w6 ⟨rfl,rfl⟩
  rw [if_neg (by omega)]
  refine ⟨_,rfl,hn5,?_⟩
  have hpk:0≤e.a % (X.nodes.length:Int)∧e.a % (X.nodes.length:Int)<X.nodes.length:=⟨Int.emod_nonneg _ (by omega),Int.emod_lt_of_pos _ (by omega)⟩
  obtain ⟨i,hi⟩:=Int.eq_ofNat_of_zero_le hpk.1
  rw [hNN]
  rw [hi] at hpk ⊢
  obtain ⟨x,hx⟩:∃ x,X.nodes[i]?=some x:=⟨_,List.getElem?_eq_getElem (by omega)⟩
  refine aF (rX (hF1.new hn5) hx) ?_
  rintro v w6 ⟨rfl,rfl⟩
  refine ⟨_,rfl,hn5,gE rfl ?_⟩
  refine aF (E6 (hF1.new hn5) hx) ?_
  rintro v w7 ⟨rfl,hp7⟩
  exact ⟨_,rfl,rfl,dE.trans (h.refl (hn.new hn5)) hp7⟩
 rw [if_neg h2]
 refine ⟨_,hz.cell (i:=2) rfl,?_⟩
 refine aF (po _ _ _ he.a (by omega)) ?_
 rintro v w3 ⟨rfl,rfl⟩
 rw [if_neg (by omega)]
 refine ⟨_,rfl,?_⟩
 refine aF (C4 hF1 _ (by omega)) ?_
 rintro v w4 ⟨rfl,hp4⟩
 exact ⟨_,rfl,rfl,dE.trans (h.refl hn) hp4⟩
end Go.Proofs.YtgpmeaicjonenaaGreat
namespace Go.Proofs.YtgpmeaicjonenaaGreat
open Go.Eng
structure Conv where
 J:Type
 O:Type
 next:J→List (List Done)→List Verb×O×Bool
structure Tk (c:Conv) where
 client:Int
 job:c.J
 got:List (List Done)
 over:Bool
 bad:Bool
 out:c.O
section
variable {c:Conv}
def Tk.told (t:Tk c):Tk c:={ t with over:=(c.next t.job t.got).2.2,out:=(c.next t.job t.got).2.1 }
def Tk.fed (t:Tk c):Option (List Done)→Tk c
 |none=>t
 |some d=>{ t with got:=t.got++[d] }
def Tk.fail (t:Tk c):Tk c:={ t with over:=true,bad:=true }
def oW (F:Fab) (t:Tk c):Fab×Tk c:=
 if 200<t.got.length then (F,t.fail) else if (c.next t.job t.got).2.2=true then (F,t.told)
 else if (F.post t.client (c.next t.job t.got).1).1≠0 then ((F.post t.client (c.next t.job t.got).1).2,t.told.fail) else ((F.post t.client (c.next t.job t.got).1).2,t.told)
def turn (F:Fab) (t:Tk c):Fab×Tk c:=
 if t.over=true∨F.alive t.client=false∨0<F.waiting t.client then (F,t) else oW (F.take t.client).2 (t.fed (F.take t.client).1)
def turns:Fab→List (Tk c)→Fab×List (Tk c)
 |F,[]=>(F,[])
 |F,t::ts=>((turns (turn F t).1 ts).1,(turn F t).2::(turns (turn F t).1 ts).2)
def happens (F:Fab) (cs:List Int) (n:Nat):List j8→Fab
 | []=>F
 |e::es=>happens (if e.at_ % 60=n then F.happen cs e else F) cs n es
def driveGo (cs sch:List Int) (es:List j8):Nat→Nat→Fab→List (Tk c)→Fab×List (Tk c)
 | 0,_,F,l=>(F,l)
 |f+1,n,F,l=>
  if (rstep (turns (happens F cs n es) l).1 sch n).1=true then driveGo cs sch es f (n+1) (rstep (turns (happens F cs n es) l).1 sch n).2 (turns (happens F cs n es) l).2
  else ((rstep (turns (happens F cs n es) l).1 sch n).2,(turns (happens F cs n es) l).2)
def drive (F:Fab) (l:List (Tk c)) (sch:List Int) (es:List j8) (most:Nat):Fab×List (Tk c):=
 turns (driveGo (l.map Tk.client) sch es most 0 F l).1 (driveGo (l.map Tk.client) sch es most 0 F l).2
def alone (F:Fab) (t:Tk c):Fab×List (Tk c):=drive F [t] [] [] 20000
theorem Fine.tail {F:Fab} (h:Fine F) (t:Tk c):Fine (oW F t).1:=by
 unfold oW
 split
 ·exact h
 ·split
  ·exact h
  ·split
   ·exact h.post _ _
   ·exact h.post _ _
theorem Fine.turn {F:Fab} (h:Fine F) (t:Tk c):Fine (turn F t).1:=by
 unfold Go.Proofs.YtgpmeaicjonenaaGreat.turn
 split
 ·exact h
 ·exact (h.take _).tail _
theorem Fine.turns:∀ (l:List (Tk c)) {F:Fab},Fine F→Fine (turns F l).1
 | [],_,h=>h
 |t::l,F,h=>by
  unfold Go.Proofs.YtgpmeaicjonenaaGreat.turns
  exact Fine.turns l (h.turn t)
theorem Fine.happens {cs:List Int} {n:Nat}:∀ (es:List j8) {F:Fab},Fine F→Fine (happens F cs n es)
 | [],F,h=>h
 |e::es,F,h=>by
  unfold Go.Proofs.YtgpmeaicjonenaaGreat.happens
  refine Fine.happens es ?_
  split
  ·exact h.happen cs e
  ·exact h
theorem Fine.driveGo (cs sch:List Int) (es:List j8):∀ (f n:Nat) {F:Fab} (l:List (Tk c)),Fine F→Fine (driveGo cs sch es f n F l).1
 | 0,_,_,_,h=>h
 |f+1,n,F,l,h=>by
  unfold Go.Proofs.YtgpmeaicjonenaaGreat.driveGo
  have h2:=(Fine.turns l (Fine.happens (cs:=cs) (n:=n) es h)).rstep sch n
  split
  ·exact Fine.driveGo cs sch es f (n+1) _ h2
  ·exact h2
theorem Fine.drive {F:Fab} (h:Fine F) (l:List (Tk c)) (sch:List Int) (es:List j8) (most:Nat):Fine (drive F l sch es most).1:=Fine.turns _ (Fine.driveGo _ _ _ _ _ _ h)
theorem Fine.alone {F:Fab} (h:Fine F) (t:Tk c):Fine (alone F t).1:=Fine.drive h _ _ _ _
def tc (t:Tk c):Prop:=t.over=false→t.got.length≤200
theorem yX {F:Fab} {t:Tk c}:tc (oW F t).2:=by
 unfold oW
 split
 ·intro e;cases e
 ·rename_i hc
  split
  ·intro _;show t.got.length≤200;omega
  ·split
   ·intro e;cases e
   ·intro _;show t.got.length≤200;omega
theorem yY {F:Fab} {t:Tk c} (h:tc t):tc (turn F t).2:=by
 unfold turn
 split
 ·exact h
 ·exact yX
structure TRo (F0:Fab) (l0:List (Tk c)) (i:Nat) (F:Fab) (l:List (Tk c)):Prop where
 fab:(turns F (l.drop i)).1=(turns F0 l0).1
 rest:l.take i++(turns F (l.drop i)).2=(turns F0 l0).2
 len:l.length=l0.length
theorem TRo.start (F:Fab) (l:List (Tk c)):TRo F l 0 F l:=⟨rfl,rfl,rfl⟩
theorem TRo.step {F0 F:Fab} {l0 l:List (Tk c)} {i:Nat} (h:TRo F0 l0 i F l) {t:Tk c} (hi:l[i]?=some t):TRo F0 l0 (i+1) (turn F t).1 (l.set i (turn F t).2):=by
 obtain ⟨hlt,he⟩:=List.getElem?_eq_some_iff.1 hi
 obtain ⟨h1,h2,h3⟩:=h
 rw [List.drop_eq_getElem_cons hlt,he,turns] at h1 h2
 refine ⟨?_,?_,by rw [List.length_set];exact h3⟩
 ·rw [List.drop_set_of_lt (by omega)]
  exact h1
 ·rw [List.drop_set_of_lt (by omega),←h2]
  rw [List.take_succ_eq_append_getElem (by simpa using hlt)]
  have e:List.take i (l.set i (turn F t).2)=List.take i l:=by
   apply List.ext_getElem?
   intro q
   rw [List.getElem?_take,List.getElem?_take]
   split
   ·rw [List.getElem?_set_ne (by omega)]
   ·rfl
  rw [e]
  simp
theorem TRo.done {F0 F:Fab} {l0 l:List (Tk c)} {i:Nat} (h:TRo F0 l0 i F l) (hi:i=l.length):turns F0 l0=(F,l):=by
 obtain ⟨h1,h2,h3⟩:=h
 subst hi
 rw [List.drop_length,turns] at h1 h2
 rw [List.take_length,List.append_nil] at h2
 exact Prod.ext h1.symm h2.symm
theorem pW:∀ (F:Fab) (l:List (Tk c)),(turns F l).2.length=l.length
 | _,[]=>rfl
 |F,t::ts=>by simp [turns,pW]
theorem sm (cs sch:List Int) (es:List j8):∀ (f n:Nat) (F:Fab) (l:List (Tk c)),(driveGo cs sch es f n F l).2.length=l.length
 | 0,_,_,_=>rfl
 |f+1,n,F,l=>by
  unfold driveGo
  split
  ·rw [sm,pW]
  ·exact pW _ _
theorem Ay (F:Fab) (t:Tk c):∃ t',(alone F t).2=[t']:=by
 have:(alone F t).2.length=1:=by unfold alone drive;rw [pW,sm];rfl
 exact List.length_eq_one_iff.1 this
end
theorem vZ {F:Fab} {cs:List Int} {n:Nat}:∀ (a:List j8) (e:j8),happens F cs n (a++[e])=(if e.at_ % 60=n then (happens F cs n a).happen cs e else happens F cs n a):=by
 intro a
 induction a generalizing F with
 |nil=>intro e;rfl
 |cons x a ih=>intro e;rw [List.cons_append,happens,ih,happens]
def qF (es:List j8):List (List Value):=es.map j8.cells
theorem Az (es:List j8):∀ r ∈ qF es,r.length=3:=by
 intro r hr
 simp only [qF,List.mem_map] at hr
 obtain ⟨x,_,rfl⟩:=hr
 rfl
theorem AA {es:List j8} {i:Nat} {x:j8} (h:es[i]?=some x):(qF es)[i]?=some x.cells:=by simp [qF,h]
def Dat (A:Nat→Prop) (u:World) (a:Option Addr) (xs:List Value):Prop:=Rd u a xs∧(xs=[]∨Off A a)
theorem Dat.keep {A A':Nat→Prop} {w w':World} {a:Option Addr} {xs:List Value} (h:Dat A w a xs) (hk:Keep A w w') (hM:∀ k,k<w.heap.size→A' k→A k):Dat A' w' a xs:=⟨h.1.keep hk h.2,Off.keep h.1 h.2 hM⟩
theorem Owns.putRow {w:World} {e sz n cap g:Nat} {rows:List (List Value)} (h:Owns w e sz (some ⟨g,0,none⟩) n cap rows.flatten) (hs:∀ r ∈ rows,r.length=sz) (hn:rows.length=n) {i:Nat} (hi:i<n) {vs:List Value} (hv:vs.length=sz) (h1:∀ v ∈ vs,single v=true) :
  wrAt w ⟨g,i * sz,none⟩ 0 vs∧Owns (puts w ⟨g,i * sz,none⟩ 0 vs) e sz (some ⟨g,0,none⟩) n cap (rows.set i vs).flatten:=by
 subst hn
 rcases h.2 with ⟨he,_⟩ | ⟨g',cur,he,hb,hc,hm,hl,ht⟩
 ·cases he
 ·simp at he
  subst he
  have hfl:=ee hs
  have hin:i * sz+sz≤rows.length * sz:=by rw [←Nat.succ_mul];exact Nat.mul_le_mul_right _ hi
  have hnc:rows.length * sz≤cap * sz:=Nat.mul_le_mul_right _ hc
  refine ⟨cK hb (by omega) h1,?_⟩
  have hp:=hb.puts (o:=i * sz) (i:=0) (vs:=vs)
  refine ⟨?_,.inr ⟨g,_,rfl,hp,hc,hm,?_,?_⟩⟩
  ·rw [ee (sz:=sz),List.length_set]
   intro r hr
   rcases List.mem_or_eq_of_mem_set hr with h3 | rfl
   ·exact hs r h3
   ·exact hv
  ·rw [jL (by omega)]
   simp
   omega
  ·rw [←rH hs (by omega) hv,Nat.add_zero,jL (by omega),jL (by omega),←ht]
   apply List.ext_getElem?
   intro q
   simp only [List.getElem?_take,List.getElem?_append,List.length_take,List.length_append,List.getElem?_drop]
   repeat' split
   all_goals first | rfl | omega | (congr 1;omega) | skip
   all_goals first | rfl | (exfalso;omega) | skip
end Go.Proofs.YtgpmeaicjonenaaGreat
namespace Go.Proofs.YtgpmeaicjonenaaGreat
open Go.Eng
section
variable {S I:Type} (st:I→S→Option S) (ok:S→Prop)
variable {st ok}
end
def stepL (c j:Nat) (F:Fab):Option Fab:=match F.clients[c]? with
 |none=>none
 |some C=>match C.lanes[j]?,F.nodes[j]? with
  |some l,some n=>if l.pair.verbs.length=0 then none else some { F with nodes:=F.nodes.set j (l.pair.step n).2.1,clients:=F.clients.set c (C.comes j l (l.pair.step n).1 (l.pair.step n).2.2) }
  | _,_=>none
theorem fC {c j:Nat} {F F':Fab}:stepL c j F=some F'↔∃ C l n,F.clients[c]?=some C∧C.lanes[j]?=some l∧F.nodes[j]?=some n∧l.pair.verbs.length≠0∧F'={ F with nodes:=F.nodes.set j (l.pair.step n).2.1,clients:=F.clients.set c (C.comes j l (l.pair.step n).1 (l.pair.step n).2.2) }:=by
 unfold stepL
 constructor
 ·intro h
  cases hC:F.clients[c]? with
  |none=>rw [hC] at h;cases h
  |some C=>
   rw [hC] at h
   simp only at h
   cases hl:C.lanes[j]? with
   |none=>rw [hl] at h;cases h
   |some l=>
    rw [hl] at h
    cases hn:F.nodes[j]? with
    |none=>rw [hn] at h;cases h
    |some n=>
     rw [hn] at h
     simp only at h
     split at h
     ·cases h
     ·rename_i hv
      exact ⟨C,l,n,rfl,hl,rfl,hv,(Option.some.inj h).symm⟩
 ·rintro ⟨C,l,n,hC,hl,hn,hv,rfl⟩
  rw [hC]
  simp only [hl,hn,if_neg hv]
theorem qG {c j:Nat} {F F':Fab} (h:stepL c j F=some F'):F.step ⟨-1,c,j⟩=(true,F'):=by
 obtain ⟨C,l,n,hC,hl,hn,hv,rfl⟩:=fC.1 h
 unfold Fab.step
 have h1:F.cl (c:Int)=some C:=by
  unfold Fab.cl
  rw [if_neg (by omega)]
  simpa using hC
 simp only [show ¬ (0:Int)≤-1 by omega,show ¬ (-1:Int) < -1 by omega,if_false,h1,show ¬ ((j:Nat):Int)<0 by omega,Int.toNat_natCast,hl,hn,if_neg hv]
theorem kt {C:Comp} {j:Nat} {l:Lane} {p:Pair} {d:Option Done} {i:Nat} (h:i≠j):(C.comes j l p d).lanes[i]?=C.lanes[i]?:=by
 cases d<;>simp [Comp.comes,List.getElem?_set_ne (λe=>h e.symm)]
theorem FQ (p:Pair) (n:aP):((p.step n).2.2=none∧(p.step n).1.verbs=p.verbs)∨(∃ d,(p.step n).2.2=some d∧(p.step n).1.verbs=p.verbs.tail):=by
 unfold Pair.step
 cases hv:p.verbs with
 |nil=>left;exact ⟨rfl,hv⟩
 |cons x xs=>
  simp only
  split
  ·right;exact ⟨_,rfl,by simp [Pair.done,hv]⟩
  ·split
   ·left;exact ⟨rfl,rfl⟩
   ·right;exact ⟨_,rfl,by simp [Pair.done,hv]⟩
end Go.Proofs.YtgpmeaicjonenaaGreat
namespace Go.Proofs.YtgpmeaicjonenaaGreat
open Go.Eng
theorem iy {x:eI} {i:Nat}:∀ {ls:List Lane} {j:Nat},x ∈ dH i j ls↔∃ q l,ls[q]?=some l∧0<l.pair.verbs.length∧x=⟨-1,i,(j+q:Nat)⟩
 | [],j=>by simp [dH]
 |l::ls,j=>by
  unfold dH
  rw [List.mem_append,iy (ls:=ls) (j:=j+1)]
  constructor
  ·rintro (h | ⟨q,l',h1,h2,h3⟩)
   ·split at h
    ·rename_i hv
     simp at h
     exact ⟨0,l,rfl,hv,by rw [h];simp⟩
    ·cases h
   ·exact ⟨q+1,l',by simpa using h1,h2,by rw [h3];congr 2;omega⟩
  ·rintro ⟨q,l',h1,h2,h3⟩
   cases q with
   |zero=>
    left
    simp at h1
    subst h1
    rw [if_pos h2,h3]
    simp
   |succ q=>exact .inr ⟨q,l',by simpa using h1,h2,by rw [h3];congr 2;omega⟩
theorem iz {x:eI}:∀ {cs:List Comp} {i:Nat},x ∈ cP i cs↔∃ q C,cs[q]?=some C∧x ∈ dH (i+q) 0 C.lanes
 | [],i=>by simp [cP]
 |C::cs,i=>by
  unfold cP
  rw [List.mem_append,iz (cs:=cs) (i:=i+1)]
  constructor
  ·rintro (h | ⟨q,C',h1,h2⟩)
   ·exact ⟨0,C,rfl,h⟩
   ·exact ⟨q+1,C',by simpa using h1,by rw [show i+(q+1)=i+1+q by omega];exact h2⟩
  ·rintro ⟨q,C',h1,h2⟩
   cases q with
   |zero=>
    left
    simp at h1
    subst h1
    exact h2
   |succ q=>exact .inr ⟨q,C',by simpa using h1,by rw [show i+1+q=i+(q+1) by omega];exact h2⟩
theorem sn {c j:Nat} {F F':Fab} (h:stepL c j F=some F'):(⟨-1,c,j⟩:eI) ∈ F.choices:=by
 obtain ⟨C,l,n,hC,hl,hn,hv,rfl⟩:=fC.1 h
 unfold Fab.choices
 refine List.mem_append.2 (.inl (iz.2 ⟨c,C,hC,iy.2 ⟨j,l,hl,by omega,?_⟩⟩))
 simp
end Go.Proofs.YtgpmeaicjonenaaGreat
