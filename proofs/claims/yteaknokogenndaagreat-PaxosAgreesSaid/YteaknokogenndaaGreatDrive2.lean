/- Drive and Alone. -/
import Derived.Test.YteaknokogenndaaGreatDrive
set_option linter.unusedVariables false
namespace Go.Proofs.YteaknokogenndaaGreat
open Go.Eng

theorem DW.turned {A : Nat → Prop} {χ : Nat → Tag} {w u w1 : World} {fb lb : Nat} {lc : Nat} {ds : List (Option Addr × List Value)} {B : Nat → Prop} {ξ : Nat → Tag} {X : FabX} {ts : List TX} (h : DW A χ w fb (some ⟨lb, 0, none⟩) lc ds u B ξ X ts) {i : Nat} {x : TX} (hx : ts[i]? = some x) {v : Value}
    (hp : TPost (fun k => B k ∨ isB (some ⟨lb, 0, none⟩) k) ξ u fb (turn X.pure x.t) v w1) :
    ∃ B' ξ' X' ga gc, v = (turn X.pure x.t).2.val ga gc ∧ wrAt w1 ⟨lb, i * 12, none⟩ 0 ((turn X.pure x.t).2.cells ga gc) ∧
      DW A χ w fb (some ⟨lb, 0, none⟩) lc ds (puts w1 ⟨lb, i * 12, none⟩ 0 ((turn X.pure x.t).2.cells ga gc)) B' ξ' X' (ts.set i ⟨(turn X.pure x.t).2, ga, gc⟩) ∧ X'.pure = (turn X.pure x.t).1 := by
  obtain ⟨B', ξ', X', h3, hX3, ga, gc, hv, hg, hgc⟩ := h.op hp (h.fine.turn _)
  have hlt := (List.getElem?_eq_some_iff.1 hx).1
  obtain ⟨hw, ho⟩ := Owns.putRow h3.own (trows_len ts) (by simp [trows]) hlt (vs := (turn X.pure x.t).2.cells ga gc) rfl (Talk.single _ _ _)
  have hk : Keep (fun k => k = lb) w1 (puts w1 ⟨lb, i * 12, none⟩ 0 ((turn X.pure x.t).2.cells ga gc)) := keep_puts _ _ _ _ _
  have hS : ∀ k, k = lb → isB (some ⟨lb, 0, none⟩) k := fun k e => ⟨0, by rw [e]⟩
  have hkA : Keep (fun k => B' k ∨ isB (some ⟨lb, 0, none⟩) k) w1 (puts w1 ⟨lb, i * 12, none⟩ 0 ((turn X.pure x.t).2.cells ga gc)) := hk.mono fun k _ e => .inr (hS k e)
  refine ⟨B', ξ', X', ga, gc, hv, hw, ⟨h3.tw.local hk hS, ?_, fun y hy => ?_, fun d hd => (h3.dat d hd).keep hkA fun _ _ e => e, h3.fine⟩, hX3⟩
  · rw [List.length_set]
    have e : trows (ts.set i ⟨(turn X.pure x.t).2, ga, gc⟩) = (trows ts).set i ((turn X.pure x.t).2.cells ga gc) := by simp [trows, List.map_set]
    rw [e]
    exact ho
  · rcases List.mem_or_eq_of_mem_set hy with h4 | rfl
    · exact (h3.tx y h4).keep hkA fun _ _ e => e
    · exact ⟨hg.keep hkA fun _ _ e => e, hgc, turn_ok (h.tx x (List.mem_of_getElem? hx)).ok⟩

theorem DW.la {A : Nat → Prop} {χ : Nat → Tag} {w u : World} {fb : Nat} {la : Option Addr} {lc : Nat} {ds : List (Option Addr × List Value)} {B : Nat → Prop} {ξ : Nat → Tag} {X : FabX} {ts : List TX} (h : DW A χ w fb la lc ds u B ξ X ts) (hl : 0 < ts.length) : ∃ lb, la = some ⟨lb, 0, none⟩ := by
  rcases h.own.2 with ⟨_, hn, _⟩ | ⟨g, cur, hg, _⟩
  · omega
  · exact ⟨g, hg⟩

/-- How far the turns of a round have come. -/
structure TR (F0 : Fab) (l0 : List Talk) (i : Nat) (F : Fab) (l : List Talk) : Prop where
  fab : (turns F (l.drop i)).1 = (turns F0 l0).1
  rest : l.take i ++ (turns F (l.drop i)).2 = (turns F0 l0).2
  len : l.length = l0.length

theorem TR.start (F : Fab) (l : List Talk) : TR F l 0 F l := ⟨rfl, rfl, rfl⟩

theorem TR.step {F0 F : Fab} {l0 l : List Talk} {i : Nat} (h : TR F0 l0 i F l) {t : Talk} (hi : l[i]? = some t) : TR F0 l0 (i + 1) (turn F t).1 (l.set i (turn F t).2) := by
  obtain ⟨hlt, he⟩ := List.getElem?_eq_some_iff.1 hi
  obtain ⟨h1, h2, h3⟩ := h
  rw [List.drop_eq_getElem_cons hlt, he, turns] at h1 h2
  refine ⟨?_, ?_, by rw [List.length_set]; exact h3⟩
  · rw [List.drop_set_of_lt (by omega)]
    exact h1
  · rw [List.drop_set_of_lt (by omega), ← h2]
    rw [List.take_succ_eq_append_getElem (by simpa using hlt)]
    have e : List.take i (l.set i (turn F t).2) = List.take i l := by
      apply List.ext_getElem?
      intro q
      rw [List.getElem?_take, List.getElem?_take]
      split
      · rw [List.getElem?_set_ne (by omega)]
      · rfl
    rw [e]
    simp

theorem TR.done {F0 F : Fab} {l0 l : List Talk} {i : Nat} (h : TR F0 l0 i F l) (hi : i = l.length) : turns F0 l0 = (F, l) := by
  obtain ⟨h1, h2, h3⟩ := h
  subst hi
  rw [List.drop_length, turns] at h1 h2
  rw [List.take_length, List.append_nil] at h2
  exact Prod.ext h1.symm h2.symm

theorem TX_map_set (ts : List TX) (i : Nat) (x : TX) : (ts.set i x).map TX.t = (ts.map TX.t).set i x.t := by simp [List.map_set]

theorem turns_len : ∀ (F : Fab) (l : List Talk), (turns F l).2.length = l.length
  | _, [] => rfl
  | F, t :: ts => by simp [turns, turns_len]

def erows (es : List Event) : List (List Value) := es.map Event.cells
theorem erows_len (es : List Event) : ∀ r ∈ erows es, r.length = 3 := by
  intro r hr
  simp only [erows, List.mem_map] at hr
  obtain ⟨x, _, rfl⟩ := hr
  rfl
theorem erows_get {es : List Event} {i : Nat} {x : Event} (h : es[i]? = some x) : (erows es)[i]? = some x.cells := by simp [erows, h]

abbrev TST : TypeId := 40

/-- What Drive leaves. -/
def DrivePost (A : Nat → Prop) (χ : Nat → Tag) (w : World) (fb : Nat) (r : Fab × List Talk) (v : Value) (w' : World) : Prop :=
  FPost A χ w fb r.1 w' fun B => ∃ la lc ts', v = .slice la r.2.length lc ∧ ts'.map TX.t = r.2 ∧ Owns w' TTa 12 la r.2.length lc (trows ts').flatten ∧ (∀ k, isB la k → ¬ B k) ∧ ∀ x ∈ ts', TXAt B w' x

theorem happens_snoc {F : Fab} {cs : List Int} {n : Nat} : ∀ (a : List Event) (e : Event), happens F cs n (a ++ [e]) = (if e.at_ % 60 = n then (happens F cs n a).happen cs e else happens F cs n a) := by
  intro a
  induction a generalizing F with
  | nil => intro e; rfl
  | cons x a ih => intro e; rw [List.cons_append, happens, ih, happens]

set_option maxHeartbeats 4000000 in
theorem Drive_c {A : Nat → Prop} {χ : Nat → Tag} {w : World} {fb : Nat} {X : FabX} (h : FabAt A χ w fb X) (hf : Fine X.pure) {ts : List TX} {pa : Option Addr} {pc : Nat} (hts : Rd w pa (trows ts).flatten) (htx : ∀ x ∈ ts, TXAt A w x) (htl : ts.length ≤ 1000)
    {sch : List Int} {sa : Option Addr} {sc : Nat} (hsd : Dat A w sa (is sch)) (hsi : ∀ x ∈ sch, I64 x) {es : List Event} {ea : Option Addr} {ec : Nat} (hed : Dat A w ea (erows es).flatten) (hei : ∀ e ∈ es, e.Ok) (hel : es.length ≤ 1000000) {most : Nat} (hm : most ≤ 1000000) :
    Does 16 [ptr fb, .slice pa ts.length pc, .slice sa sch.length sc, .slice ea es.length ec, .int .i64 most] w (DrivePost A χ w fb (drive X.pure (ts.map TX.t) sch es most)) := by
  refine does Tryz.func16 ?_
  rw [ptr, bodegarun9_Drive_vc]
  obtain ⟨inf, hi, hz, hsz, hby⟩ := infoB (T := TTa) (z := .agg #[.int .i64 0, .int .i64 0, .int .i64 0, .int .i64 0, .int .i64 0, .int .i64 0, .int .u64 0, .slice none 0 0, .bool false, .bool false, .int .i64 0, .int .u64 0]) (n := 12) (m := 104) (by kernel_rfl)
  have hon : Owns w TTa inf.size none 0 0 [] := Owns.nil _ _ _
  obtain ⟨ap, apc, w1, hrun, hown, hk1, hap⟩ := Owns.append (P := Tryz.prog) (t := TST) (ty := TST) Tryz.underlying40 hi hz (by rw [hsz]; rfl) (by omega) hon (s := pa) (m := ts.length) (c := pc) (news := (trows ts).flatten) (by rw [hsz, flat_length (trows_len ts)]; simp [trows]) hts (trows_single ts) (by omega) (by rw [hby]; omega)
  rw [Nat.zero_add, List.nil_append, hsz] at hown
  rw [Nat.zero_add] at hrun
  have hn1 : New w w1 := hk1.mono fun k _ hb => by obtain ⟨o, ho⟩ := hb; cases ho
  have hfr1 : ∀ k, isB ap k → w.heap.size ≤ k := fun k hk => by
    rcases hap with e | e
    · rw [e] at hk; obtain ⟨o, ho⟩ := hk; cases ho
    · rw [e] at hk; obtain ⟨o, ho⟩ := hk; simp at ho; omega
  have hmono : ∀ k, k < w.heap.size → A k ∨ isB ap k → A k := fun k hlt hc => hc.elim id fun hb => by have := hfr1 k hb; omega
  have hT : TW A χ w fb (isB ap) w1 A χ X := TW.start h hn1 fun k hk => ⟨hfr1 k hk, hown.lt hk⟩
  have hD0 : DW A χ w fb ap apc [(sa, is sch), (ea, (erows es).flatten)] w1 A χ X ts := by
    refine ⟨hT, hown, fun x hx => (htx x hx).keep (Keep.of_new hn1) hmono, fun d hd => ?_, hf⟩
    simp at hd
    rcases hd with rfl | rfl
    · exact hsd.keep (Keep.of_new hn1) hmono
    · exact hed.keep (Keep.of_new hn1) hmono
  refine ⟨ap, ts.length, apc, w1, hrun, ?_⟩
  clear hrun hk1 hT hon hz hby hsz hi inf hap
  obtain ⟨inf, hi, hz, hsz, hby⟩ := infoB (T := TI) (z := .int .i64 0) (n := 1) (m := 8) (by kernel_rfl)
  generalize hcs : (ts.map TX.t).map Talk.client = cs
  -- the compute nodes
  refine loop_rule mix (fun m env u => ∃ (i : Nat) (ca : Option Addr) (cc : Nat) (jj : List Value), m = ts.length - i ∧ i ≤ ts.length ∧ env = bodegarun9_Drive_env1 ⟨fb, 0, none⟩ ap ts.length apc sa sch.length sc ea es.length ec most ca i cc i jj ∧ New w1 u ∧ Owns u TI 1 ca i cc (is (cs.take i)) ∧ (∀ k, isB ca k → w1.heap.size ≤ k)) ts.length
    ⟨0, none, 0, _, rfl, by omega, rfl, Keep.refl _ _, Owns.nil _ _ _, fun k hk => by obtain ⟨o, ho⟩ := hk; cases ho⟩ ?_
  rintro m env u ⟨i, ca, cc, jj, rfl, hile, rfl, hnu, hoc, hfc⟩
  rw [bodegarun9_Drive_loop1_body]
  refine bif_dec (fun hp => ?_) (fun hp => ?_)
  · have hlt : i < ts.length := by omega
    have hg : ts[i]? = some ts[i] := List.getElem?_eq_getElem hlt
    obtain ⟨ba, oa, hae, hca, hcell⟩ := (Owns.new hnu hown).rd.row (trows_len ts) (by omega) (trows_get hg)
    have hcsi : cs[i]? = some ts[i].t.client := by rw [← hcs]; simp [hg]
    rw [hae]
    refine idxS_mk (by omega) (by omega) ⟨ts[i].t.client, by simpa using hcell 1 _ rfl, ?_⟩
    have hoc' : Owns u TI inf.size ca i cc (is (cs.take i)) := by rw [hsz]; exact hoc
    refine push_k Tryz.underlying34 hi hz (by rw [hsz]; rfl) (by omega) hoc' (vs := [.int .i64 ts[i].t.client]) (by rw [hsz]; rfl) (by intro v hv; simp at hv; subst hv; rfl) (by omega) (by omega) ?_
    intro b3 ap1 cap1 u2 hb3 ho2 hk2 hap1
    rw [hsz] at ho2
    rw [w64 (by omega) (by omega), ← hae]
    refine ⟨ts.length - (i + 1), by omega, i + 1, ap1, cap1, _, rfl, by omega, rfl, new_fresh hnu hk2 hfc, ?_, ?_⟩
    · have e : is (cs.take (i + 1)) = is (cs.take i) ++ [.int .i64 ts[i].t.client] := by
        rw [List.take_add_one, hcsi]
        simp [is]
      rw [e]
      exact ho2
    · intro k hk
      rcases hap1 k hk with h1 | h1
      · exact hfc k h1
      · have := hnu.size
        omega
  have hin : i = ts.length := by omega
  subst hin
  have hcl : cs.length = ts.length := by rw [← hcs]; simp
  rw [List.take_of_length_le (by omega)] at hoc
  rw [bodegarun9_Drive_aft1_vc]
  clear hp hile
  -- the state ahead of the rounds
  have hD1 : DW A χ w fb ap apc [(ca, is cs), (sa, is sch), (ea, (erows es).flatten)] u A χ X ts := by
    have hd := hD0.new hnu
    refine ⟨hd.tw, hd.own, hd.tx, fun d hdm => ?_, hf⟩
    rcases List.mem_cons.1 hdm with rfl | hdm
    · refine ⟨hoc.rd, off_of hoc.rd fun k hk e => ?_⟩
      have h1 := hfc k hk
      rcases e with e | e
      · have := h.low k e
        have := hn1.size
        omega
      · have := hown.lt e
        omega
    · exact hd.dat d hdm
  have hdrive : drive X.pure (ts.map TX.t) sch es most = turns (driveGo cs sch es most 0 X.pure (ts.map TX.t)).1 (driveGo cs sch es most 0 X.pure (ts.map TX.t)).2 := by unfold drive; rw [hcs]
  rw [hdrive]
  generalize hGo : driveGo cs sch es most 0 X.pure (ts.map TX.t) = GG
  have hGo' := hGo
  clear hdrive hD0 hoc hfc hnu hts htx hsd hed
  have hcl1 : cs.length ≤ 1000 := by omega
  -- the last turns
  have hlast : ∀ (z : World) (B : Nat → Prop) (ξ : Nat → Tag) (Y : FabX) (ys : List TX) (jj : List Value), DW A χ w fb ap apc [(ca, is cs), (sa, is sch), (ea, (erows es).flatten)] z B ξ Y ys → ys.length = ts.length → (Y.pure, ys.map TX.t) = GG →
      W Tryz.prog (sub (bodyOf Tryz.f16) [1, 1, 1, 1, 1]) (bodegarun9_Drive_aft2 ⟨fb, 0, none⟩ ap ts.length apc jj) (retQ Tryz.prog Tryz.f16 (DrivePost A χ w fb (turns GG.1 GG.2))) z := by
    intro z B ξ Y ys jj hD hyl hYG
    rw [bodegarun9_Drive_aft2_vc]
    rw [← hYG]
    dsimp only
    refine loop_rule mix (fun m env z => ∃ (i : Nat) (B : Nat → Prop) (ξ : Nat → Tag) (Z : FabX) (zs : List TX) (jj : List Value), m = ts.length - i ∧ i ≤ ts.length ∧ env = bodegarun9_Drive_env4 ⟨fb, 0, none⟩ ap ts.length apc i jj ∧ DW A χ w fb ap apc [(ca, is cs), (sa, is sch), (ea, (erows es).flatten)] z B ξ Z zs ∧ zs.length = ts.length ∧ TR Y.pure (ys.map TX.t) i Z.pure (zs.map TX.t)) ts.length
      ⟨0, B, ξ, Y, ys, _, rfl, by omega, rfl, hD, hyl, TR.start _ _⟩ ?_
    clear hD hYG
    rintro m env z ⟨i, B, ξ, Z, zs, jj, rfl, hile, rfl, hD, hzl, hTR⟩
    rw [bodegarun9_Drive_loop4_body]
    refine bif_dec (fun hp => ?_) (fun hp => ?_)
    · have hlt : i < zs.length := by omega
      have hg : zs[i]? = some zs[i] := List.getElem?_eq_getElem hlt
      obtain ⟨lb, hla⟩ := hD.la (by omega)
      rw [hla] at hD ⊢
      obtain ⟨ba, oa, hae, hca, hcell⟩ := hD.own.rd.row (trows_len zs) (by omega) (trows_get hg)
      simp at hae
      obtain ⟨rfl, rfl⟩ := hae
      have hx := hD.tx _ (List.mem_of_getElem? hg)
      have hxl := hx.ok.len
      refine idxS_mk (by omega) (by omega) ?_
      refine ⟨zs[i].t.kind, zs[i].t.client, zs[i].t.job.nodes, zs[i].t.job.number, zs[i].t.job.client, zs[i].t.job.round, zs[i].t.job.value, zs[i].ga, zs[i].t.got.length, zs[i].gc, zs[i].t.over, zs[i].t.bad, zs[i].t.code, zs[i].t.value, by simpa [Talk.cells] using hca, ?_⟩
      refine at_call (Turn_c hD.tw.fab hD.fine.good hx.got hx.cap hx.ok.kind hx.ok.value (by omega)) ?_
      rintro v z1 hp1
      obtain ⟨B', ξ', Z', ga, gc, rfl, hw, hD', hZ'⟩ := hD.turned hg hp1
      refine ⟨_, _, _, _, _, _, _, _, _, _, _, _, _, _, rfl, ?_⟩
      refine idxS_mk (by omega) (by omega) ?_
      have e12 : 0 + Int.toNat (i : Int) * 12 = i * 12 := by omega
      rw [e12]
      refine ⟨hw, ?_⟩
      rintro z2 hz2
      rw [w64 (by omega) (by omega)]
      refine ⟨ts.length - (i + 1), by omega, i + 1, B', ξ', Z', _, _, rfl, by omega, rfl, by rw [hz2]; exact hD', by simpa using hzl, ?_⟩
      rw [TX_map_set, hZ']
      exact hTR.step (by simp [hg])
    · have hin : i = ts.length := by omega
      rw [bodegarun9_Drive_aft4_vc]
      have hdone := hTR.done (by simp; omega)
      rw [hdone]
      refine hD.tw.done ⟨ap, apc, zs, by simp [hzl], rfl, by simpa using hD.own, fun k hk hb => ?_, fun x hx => (hD.tx x hx).keep (Keep.refl _ _) fun _ _ e => .inl e⟩
      obtain ⟨l1, l2, l3⟩ := hD.tw.loc k hk
      rcases (hD.tw.next.iff k).1 hb with hc | hc
      · exact hc l3
      · omega
  -- the rounds
  refine loop_rule mix (fun m env z => ∃ (n : Nat) (B : Nat → Prop) (ξ : Nat → Tag) (Y : FabX) (ys : List TX) (jj : List Value), m = most - n ∧ n ≤ most ∧ env = bodegarun9_Drive_env2 ⟨fb, 0, none⟩ ap ts.length apc sa sch.length sc ea es.length ec most ca ts.length cc n jj ∧ DW A χ w fb ap apc [(ca, is cs), (sa, is sch), (ea, (erows es).flatten)] z B ξ Y ys ∧ ys.length = ts.length ∧ driveGo cs sch es (most - n) n Y.pure (ys.map TX.t) = GG) most
    ⟨0, A, χ, X, ts, _, rfl, by omega, rfl, hD1, rfl, hGo⟩ ?_
  clear hD1 hGo hGo'
  rintro m env z ⟨n, B, ξ, Y, ys, jj, rfl, hnm, rfl, hD, hyl, hG⟩
  rw [bodegarun9_Drive_loop2_body]
  refine bif_dec (fun hp => ?_) (fun hp => ?_)
  · have hms : most - n = (most - (n + 1)) + 1 := by omega
    rw [hms, driveGo] at hG
    -- the events
    refine loop_rule mix (fun m env z => ∃ (k : Nat) (B : Nat → Prop) (ξ : Nat → Tag) (Z : FabX) (jj : List Value), m = es.length - k ∧ k ≤ es.length ∧ env = bodegarun9_Drive_env3 ⟨fb, 0, none⟩ ap ts.length apc sa sch.length sc ea es.length ec most ca ts.length cc n k jj ∧ DW A χ w fb ap apc [(ca, is cs), (sa, is sch), (ea, (erows es).flatten)] z B ξ Z ys ∧ Z.pure = happens Y.pure cs n (es.take k)) es.length
      ⟨0, B, ξ, Y, _, rfl, by omega, rfl, hD, rfl⟩ ?_
    clear hD
    rintro m env z ⟨k, B, ξ, Z, jj, rfl, hke, rfl, hD, hZ⟩
    rw [bodegarun9_Drive_loop3_body]
    refine bif_dec (fun hq => ?_) (fun hq => ?_)
    · have hlt : k < es.length := by omega
      have hg : es[k]? = some es[k] := List.getElem?_eq_getElem hlt
      have hok := hei _ (List.mem_of_getElem? hg)
      have hsn := happens_snoc (F := Y.pure) (cs := cs) (n := n) (es.take k) es[k]
      rw [← List.take_succ_eq_append_getElem hlt, ← hZ] at hsn
      have hed := (hD.dat (ea, (erows es).flatten) (by simp)).1
      obtain ⟨ba, oa, hae, hca, hcell⟩ := hed.row (erows_len es) (by omega) (erows_get hg)
      have hae' : ea = some ⟨ba, oa, none⟩ := hae
      rw [hae']
      refine idxS_mk (by omega) (by omega) ⟨es[k].at_, by simpa using hcell 0 _ rfl, ?_⟩
      refine at_call (Pick_c _ _ _ hok.at_ (by omega)) ?_
      rintro v z1 ⟨rfl, rfl⟩
      rw [if_neg (by omega)]
      refine ⟨_, rfl, bif_beq (fun he => ?_) (fun he => ?_)⟩
      · refine idxS_mk (by omega) (by omega) ⟨es[k].at_, es[k].kind, es[k].a, by simpa [Event.cells] using hca, ?_⟩
        have hcr := (hD.dat (ca, is cs) (by simp)).1
        have hhc := Happen_c hD.tw.fab hD.fine hcr (cc := cc) hcl1 hok
        rw [hcl] at hhc
        refine at_call hhc ?_
        rintro v z2 ⟨rfl, hp2⟩
        obtain ⟨B', ξ', Z', hD', hZ', _⟩ := hD.op hp2 (hD.fine.happen _ _)
        refine ⟨rfl, ?_⟩
        rw [w64 (by omega) (by omega), ← hae']
        rw [if_pos he] at hsn
        exact ⟨es.length - (k + 1), by omega, k + 1, B', ξ', Z', _, rfl, by omega, rfl, hD', by rw [hZ', hsn]⟩
      · rw [w64 (by omega) (by omega), ← hae']
        rw [if_neg he] at hsn
        exact ⟨es.length - (k + 1), by omega, k + 1, B, ξ, Z, _, rfl, by omega, rfl, hD, hsn.symm⟩
    have hke' : k = es.length := by omega
    subst hke'
    rw [List.take_of_length_le (Nat.le_refl _)] at hZ
    rw [bodegarun9_Drive_aft3_vc]
    rw [← hZ] at hG
    -- the turns
    refine loop_rule mix (fun m env z => ∃ (i : Nat) (B : Nat → Prop) (ξ : Nat → Tag) (V : FabX) (zs : List TX) (jj : List Value), m = ts.length - i ∧ i ≤ ts.length ∧ env = bodegarun9_Drive_env5 ⟨fb, 0, none⟩ ap ts.length apc sa sch.length sc ea es.length ec most ca ts.length cc n i jj ∧ DW A χ w fb ap apc [(ca, is cs), (sa, is sch), (ea, (erows es).flatten)] z B ξ V zs ∧ zs.length = ts.length ∧ TR Z.pure (ys.map TX.t) i V.pure (zs.map TX.t)) ts.length
      ⟨0, B, ξ, Z, ys, _, rfl, by omega, rfl, hD, hyl, TR.start _ _⟩ ?_
    clear hD hq hke
    rintro m env z ⟨i, B, ξ, V, zs, jj, rfl, hile, rfl, hD, hzl, hTR⟩
    rw [bodegarun9_Drive_loop5_body]
    refine bif_dec (fun hq => ?_) (fun hq => ?_)
    · have hlt : i < zs.length := by omega
      have hg : zs[i]? = some zs[i] := List.getElem?_eq_getElem hlt
      obtain ⟨lb, hla⟩ := hD.la (by omega)
      rw [hla] at hD ⊢
      obtain ⟨ba, oa, hae, hca, hcell⟩ := hD.own.rd.row (trows_len zs) (by omega) (trows_get hg)
      simp at hae
      obtain ⟨rfl, rfl⟩ := hae
      have hx := hD.tx _ (List.mem_of_getElem? hg)
      have hxl := hx.ok.len
      refine idxS_mk (by omega) (by omega) ?_
      refine ⟨zs[i].t.kind, zs[i].t.client, zs[i].t.job.nodes, zs[i].t.job.number, zs[i].t.job.client, zs[i].t.job.round, zs[i].t.job.value, zs[i].ga, zs[i].t.got.length, zs[i].gc, zs[i].t.over, zs[i].t.bad, zs[i].t.code, zs[i].t.value, by simpa [Talk.cells] using hca, ?_⟩
      refine at_call (Turn_c hD.tw.fab hD.fine.good hx.got hx.cap hx.ok.kind hx.ok.value (by omega)) ?_
      rintro v z1 hp1
      obtain ⟨B', ξ', Z', ga, gc, rfl, hw, hD', hZ'⟩ := hD.turned hg hp1
      refine ⟨_, _, _, _, _, _, _, _, _, _, _, _, _, _, rfl, ?_⟩
      refine idxS_mk (by omega) (by omega) ?_
      have e12 : 0 + Int.toNat (i : Int) * 12 = i * 12 := by omega
      rw [e12]
      refine ⟨hw, ?_⟩
      rintro z2 hz2
      rw [w64 (by omega) (by omega)]
      refine ⟨ts.length - (i + 1), by omega, i + 1, B', ξ', Z', _, _, rfl, by omega, rfl, by rw [hz2]; exact hD', by simpa using hzl, ?_⟩
      rw [TX_map_set, hZ']
      exact hTR.step (by simp [hg])
    · have hin : i = ts.length := by omega
      have hdone := hTR.done (by simp; omega)
      rw [hdone] at hG
      rw [bodegarun9_Drive_aft5_vc]
      have hsr := (hD.dat (sa, is sch) (by simp)).1
      refine at_call (RStep_c hD.tw.fab hD.fine hsr hsi n) ?_
      rintro v z1 ⟨rfl, hp1⟩
      obtain ⟨B', ξ', V', hD', hV', _⟩ := hD.op hp1 (hD.fine.rstep _ _)
      refine ⟨_, rfl, bif_not (fun hb => ?_) (fun hb => ?_)⟩
      · rw [if_neg (by rw [hb]; simp)] at hG
        exact hlast z1 B' ξ' V' zs _ hD' hzl (by rw [hV']; exact hG)
      · rw [if_pos hb] at hG
        rw [w64 (by omega) (by omega)]
        exact ⟨most - (n + 1), by omega, n + 1, B', ξ', V', zs, _, rfl, by omega, rfl, hD', hzl, by rw [hV']; exact hG⟩
  · have hnm' : most - n = 0 := by omega
    rw [hnm', driveGo] at hG
    exact hlast z B ξ Y ys _ hD hyl hG
end Go.Proofs.YteaknokogenndaaGreat
