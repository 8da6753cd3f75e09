/- One compute node of a conversation acts: the whole turn. -/
import Derived.Test.YteaknokogenndaaGreatTurn2
set_option linter.unusedVariables false
namespace Go.Proofs.YteaknokogenndaaGreat
open Go.Eng

abbrev TSS : TypeId := 52
abbrev TSD : TypeId := 82

theorem rowsV_single (rows : List Row) : ∀ u ∈ rowsV rows, single u = true := by
  intro u hu
  simp only [rowsV, List.mem_map] at hu
  obtain ⟨r, _, rfl⟩ := hu
  rfl

/-- The completions of a batch are appended to a copy of the others. -/
theorem got_push {B : Nat → Prop} {z : World} {ga : Option Addr} {gc : Nat} {G : List (List Done)} (hg : GotAt B z ga G) (hl : G.length ≤ 1000000) {b : Nat} {raw : List DoneV} {ds : List Done} {c : Nat} (hb : Blk z b (drows raw).flatten TD) (hds : Ds B z raw ds) (hnb : ¬ B b) (hdl : ds.length ≤ 1024) (hlow : ∀ k, B k → k < z.heap.size) {n : Nat} (hn : n = raw.length)
    {K : Nat → Option Addr → Nat → Nat → World → Prop} (hk : ∀ b3 ap cap z', z.heap.size ≤ b3 → GotAt B z' ap (G ++ [ds]) → G.length + 1 ≤ cap → New z z' → K b3 ap (G.length + 1) cap z') :
    ∃ (ap : Option Addr) (ap_len ap_cap : Nat), ∃ w9, (Builtin.append_ #[TSS, TSS] TSS #[(.slice none 0 0), (.slice ga G.length gc)]).run Tryz.prog z = .ok (.slice ap ap_len ap_cap) w9 ∧ ∀ b3 w10, b3 = w9.heap.size → w10 = w9.alloc (.cells #[.slice (some ⟨b, 0, none⟩) n c] TSD) →
      ∃ (ap1 : Option Addr) (ap1_len ap1_cap : Nat), ∃ w11, (Builtin.append_ #[TSS, TSS] TSS #[(.slice ap ap_len ap_cap), (.slice (some ⟨b3, 0, none⟩) 1 1)]).run Tryz.prog w10 = .ok (.slice ap1 ap1_len ap1_cap) w11 ∧ K b3 ap1 ap1_len ap1_cap w11 := by
  obtain ⟨inf, hi, hz, hsz, hby⟩ := infoB (T := TSD) (z := .slice none 0 0) (n := 1) (m := 24) (by kernel_rfl)
  obtain ⟨rows, hrl, hr, ho, hd⟩ := hg
  have hon : Owns z TSD inf.size none 0 0 [] := Owns.nil _ _ _
  have hrv : (rowsV rows).length = G.length := by simp [rowsV, hrl]
  obtain ⟨ap, apc, z9, hrun, hown, hk9, hap⟩ := Owns.append (P := Tryz.prog) (t := TSS) (ty := TSS) Tryz.underlying52 hi hz (by rw [hsz]; rfl) (by omega) hon (s := ga) (m := G.length) (c := gc) (news := rowsV rows) (by rw [hsz, hrv]; omega) hr (rowsV_single rows) (by omega) (by rw [hby]; omega)
  have hn9 : New z z9 := hk9.mono fun k _ hb => by obtain ⟨o, ho⟩ := hb; cases ho
  have hfr9 : ∀ k, isB ap k → z.heap.size ≤ k := fun k hk => by
    rcases hap with e | e
    · rw [e] at hk; obtain ⟨o, ho⟩ := hk; cases ho
    · rw [e] at hk; obtain ⟨o, ho⟩ := hk; simp at ho; omega
  refine ⟨ap, 0 + G.length, apc, z9, hrun, ?_⟩
  rw [Nat.zero_add, List.nil_append] at hown
  rw [Nat.zero_add]
  refine push_k Tryz.underlying52 hi hz (by rw [hsz]; rfl) (by omega) hown (vs := [.slice (some ⟨b, 0, none⟩) n c]) (by rw [hsz]; rfl) (by intro v hv; simp at hv; subst hv; rfl) (by omega) (by omega) ?_
  intro b3 ap1 cap1 z11 hb3 ho11 hk11 hap1
  have hn11 : New z z11 := new_fresh hn9 hk11 hfr9
  have hs9 := hn9.size
  refine hk b3 ap1 cap1 z11 (by omega) ?_ ho11.le hn11
  have hfr11 : ∀ k, isB ap1 k → z.heap.size ≤ k := fun k hk => by
    rcases hap1 k hk with h1 | h1
    · exact hfr9 k h1
    · omega
  have hrows : rowsV rows ++ [.slice (some ⟨b, 0, none⟩) n c] = rowsV (rows ++ [⟨some ⟨b, 0, none⟩, c, raw⟩]) := by simp [rowsV, hn]
  have hrd : Rd z11 ap1 (rowsV (rows ++ [⟨some ⟨b, 0, none⟩, c, raw⟩])) := by rw [← hrows]; exact ho11.rd
  refine ⟨rows ++ [⟨some ⟨b, 0, none⟩, c, raw⟩], by simp [hrl], hrd, off_of hrd fun k hk hb => ?_, fun i r es h5 h6 => ?_⟩
  · have h1 := hfr11 k hk
    have h2 := hlow k hb
    omega
  · rw [List.getElem?_append] at h5 h6
    rw [hrl] at h5
    split at h5
    · rename_i hlt
      rw [if_pos hlt] at h6
      obtain ⟨h1, h2, h3, h4⟩ := hd i r es h5 h6
      exact ⟨h1.new hn11, h2, h3.keep (Keep.of_new hn11) (fun _ _ h => h), h4⟩
    · rename_i hlt
      rw [if_neg hlt] at h6
      have hi0 : i - G.length = 0 := by
        have := (List.getElem?_eq_some_iff.1 h5).1
        simp at this
        omega
      rw [hi0] at h5 h6
      simp at h5 h6
      subst h5 h6
      refine ⟨rd_blk (New.blk hn11 hb) (by rw [List.drop_zero]; exact List.take_of_length_le (Nat.le_refl _)), .inr hnb, hds.keep (Keep.of_new hn11) (fun _ _ h => h), hdl⟩

set_option maxHeartbeats 2000000 in
theorem Turn_c {A : Nat → Prop} {χ : Nat → Tag} {w : World} {fb : Nat} {X : FabX} (h : FabAt A χ w fb X) (hok : Good X.pure) {t : Talk} {ga : Option Addr} {gc : Nat} (hg : GotAt A w ga t.got) (hgc : t.got.length ≤ gc) (hk : t.kind = 2) (hv : U64 t.job.value) (hlen : t.got.length ≤ 1000000) :
    Does 33 [ptr fb, t.val ga gc] w (TPost A χ w fb (turn X.pure t)) := by
  refine does Tryz.func33 ?_
  refine Eq.mpr (bodegarun9_Turn_vc fb t.kind t.client t.job.nodes t.job.number t.job.client t.job.round t.job.value ga t.got.length gc t.over t.bad t.code t.value w _) ?_
  rintro b1 w1 hb1 hw1 b2 w2 hb2 hw2
  obtain ⟨hz1, hn1⟩ := box_new hb1 hw1
  obtain ⟨hz2, hn2⟩ := box_new hb2 hw2
  have hz12 : Blk w2 b1 (t.cells ga gc) TTa := New.blk hn2 hz1
  have hz2 : Blk w2 b2 (zeroT.cells none 0) TTa := hz2
  have hs1 := hz1.lt
  have hs12 := hn1.size
  have hs2 := hz2.lt
  have hs22 := hn2.size
  clear hw1 hw2 hz1
  have hn02 := hn1.new hn2
  have hne : b1 ≠ b2 := by omega
  have hT : TW A χ w fb (fun k => k = b1 ∨ k = b2) w2 A χ X := TW.start h hn02 fun k hk => by omega
  have hg2 : GotAt (fun k => A k ∨ k = b1 ∨ k = b2) w2 ga t.got := hg.keep (Keep.of_new hn02) fun k hlt hc => by
    rcases hc with hc | hc
    · exact hc
    · omega
  have hsame : ∀ w', Keep (fun k => k = b2) w2 w' → TPost A χ w fb (X.pure, t) (t.val ga gc) w' := fun w' hk' => tdone hT hg2 hgc hk'
  unfold turn
  refine ⟨_, hz12.cell rfl, ?_⟩
  cases hov : t.over with
  | true =>
    refine bif_t rfl ?_
    rw [if_pos (.inl rfl)]
    exact tret_k hz12 hz2 rfl hsame
  | false =>
    refine bif_f rfl ?_
    refine ⟨_, hz12.cell rfl, ?_⟩
    refine at_call (Alive_c hT.fab _) ?_
    rintro v w4 ⟨rfl, rfl⟩
    refine ⟨_, rfl, bif_not (fun ha => ?_) (fun ha => ?_)⟩
    · rw [if_pos (.inr (.inl ha))]
      exact tret_k hz12 hz2 rfl hsame
    refine ⟨_, hz12.cell rfl, ?_⟩
    refine at_call (Waiting_c hT.fab _) ?_
    rintro v w6 ⟨rfl, rfl⟩
    refine ⟨_, rfl, bif_dec (fun hw => ?_) (fun hw => ?_)⟩
    · rw [if_pos (.inr (.inr (by omega)))]
      exact tret_k hz12 hz2 rfl hsame
    rw [if_neg (by rw [ha]; simp; omega)]
    refine ⟨_, hz12.cell rfl, ?_⟩
    refine at_call (Take_c hT.fab _) ?_
    rintro v w8 hp
    obtain ⟨B', ξ', X', h3, hX3, hK3, hk3, hM3, hL3⟩ := hT.op hp
    have hb13 : Blk w8 b1 (t.cells ga gc) TTa := (hL3 b1 (.inl rfl)).trans hz12
    have hb23 : Blk w8 b2 (zeroT.cells none 0) TTa := (hL3 b2 (.inr rfl)).trans hz2
    have hg3 := hg2.keep (A' := fun k => B' k ∨ k = b1 ∨ k = b2) hk3 hM3
    have hok3 : Good X'.pure := by rw [hX3]; exact hok.take _
    have htl : ∀ ds, (X.pure.take t.client).1 = some ds → ds.length ≤ 1024 := fun ds => take_len hok
    rw [← hX3]
    generalize (X.pure.take t.client).1 = od at hK3 htl ⊢
    cases od with
    | none =>
      have hK3 : v = .tuple #[.slice none 0 0, .bool false] := hK3
      subst hK3
      refine ⟨_, _, _, _, rfl, bif_f rfl ?_⟩
      exact tail_c h3 hok3 hne hb13 hb23 rfl hg3 hgc hk hv
    | some ds =>
      obtain ⟨b, raw, rfl, hbb, hds, hnb⟩ := hK3
      refine ⟨_, _, _, _, rfl, bif_t rfl ?_⟩
      refine ⟨_, _, _, hb13.cell rfl, ?_⟩
      refine got_push hg3 hlen hbb hds hnb (htl ds rfl) h3.fab.low (by rw [hds.1]) ?_
      intro b3 ap cap z hb3 hgz hcap hnz
      have hb14 := New.blk hnz hb13
      refine ⟨⟨_, hb14.cell rfl⟩, hb14.frozen, ?_⟩
      rintro w12 hw12
      have hk12 : Keep (fun k => k = b1) z w12 := by rw [hw12]; exact keep_setCell _ _ _ _
      have hb15 := hb14.setCell (i := 7) (.slice ap (t.got.length + 1) cap)
      rw [← hw12] at hb15
      clear hw12
      have hb15 : Blk w12 b1 ((t.fed (some ds)).cells ap cap) TTa := by
        have e : (t.fed (some ds)).got.length = t.got.length + 1 := by simp [Talk.fed]
        unfold Talk.cells
        rw [e]
        exact hb15
      refine tail_c ((h3.new hnz).local hk12 fun _ e => .inl e) hok3 hne hb15 (hk12.blk (New.blk hnz hb23) fun e => hne e.symm) rfl (hgz.keep (hk12.mono fun _ _ e => .inr (.inl e)) fun _ _ hb => hb) ?_ hk hv
      show (t.got ++ [ds]).length ≤ cap
      rw [List.length_append]
      exact hcap
end Go.Proofs.YteaknokogenndaaGreat
