/- The law FetchLocks. -/
import Derived.Test.YtjifihffjmbjfaaGreatFL
import Derived.Test.YtjifihffjmbjfaaGreatAwk16
set_option linter.unusedVariables false
namespace Go.Proofs.YtjifihffjmbjfaaGreat
open Go.Eng Go.PureLocks

abbrev FLPost (w : World) : Value → World → Prop := fun x w' => x = .bool true ∧ New w w'

variable {w u : World} {a a' s : Option Addr} {n c c' sc : Nat} {L M : List ApiPageR} {S : List ApiSeenR}

theorem rowl_few (hs : List Int) : (rowl hs 255).length ≤ 1000000 := Nat.le_trans (rowl_le hs 255) (by omega)

theorem FL_aft3 (hn : New w u) (hL : PgsAt w a n L) (hM : PgsAt u a' M.length M) (hLf : L.length ≤ 40) (hMf : M.length ≤ 40) (jj : List Value) :
    W Tryz.prog (sub (bodyOf Tryz.f8) [1, 1, 1, 1, 1, 1, 1, 1, 1]) (bodegalaw16_FetchLocks_aft3 a n c a' M.length c' jj) (retQ Tryz.prog Tryz.f8 (FLPost w)) u := by
  rw [bodegalaw16_FetchLocks_aft3_vc]
  refine at_call (FOwners_c (hL.new hn) (by omega)) ?_
  rintro x u1 ⟨p1, q1, l1, rfl, e1, hr1, hn1⟩
  refine ⟨_, _, _, rfl, ?_⟩
  refine at_call (ROwners_c (hL.new (hn.new hn1))) ?_
  rintro x u2 ⟨p2, q2, l2, rfl, e2, hr2, hn2⟩
  refine ⟨_, _, _, rfl, ?_⟩
  have e12 : l2 = l1 := e2.trans e1.symm
  subst e12
  refine at_call (SameInts_c (hr1.new hn2) hr2 (by rw [e2]; exact rowl_few _)) ?_
  rintro x u3 ⟨rfl, hn3⟩
  have hn13 := (hn1.new hn2).new hn3
  refine ⟨_, rfl, bif_t rfl ?_⟩
  refine at_call (FOwners_c (hM.new hn13) (by omega)) ?_
  rintro x u4 ⟨p3, q3, l3, rfl, e3, hr3, hn4⟩
  refine ⟨_, _, _, rfl, ?_⟩
  refine at_call (ROwners_c (hM.new (hn13.new hn4))) ?_
  rintro x u5 ⟨p4, q4, l4, rfl, e4, hr4, hn5⟩
  refine ⟨_, _, _, rfl, ?_⟩
  have e34 : l4 = l3 := e4.trans e3.symm
  subst e34
  refine at_call (SameInts_c (hr3.new hn5) hr4 (by rw [e4]; exact rowl_few _)) ?_
  rintro x u6 ⟨rfl, hn6⟩
  exact ⟨_, rfl, rfl, hn.new (((hn13.new hn4).new hn5).new hn6)⟩

theorem FL_loop3 (hn : New w u) (hL : PgsAt w a n L) (hM : PgsAt u a' M.length M) (hLf : L.length ≤ 40) (hMf : M.length ≤ 40) (hS : Rd u s (snrows S).flatten) (hSM : S = seenOf M ∨ S = []) (jj : List Value) :
    codeW Tryz.prog (.loop (sub (bodyOf Tryz.f8) [1, 1, 1, 1, 1, 1, 1, 1, 0, 1, 0, 0])) (bodegalaw16_FetchLocks_env3 a n c a' M.length c' s S.length sc 0 jj) (blockQ 4 (seqQ (fun env z => W Tryz.prog (sub (bodyOf Tryz.f8) [1, 1, 1, 1, 1, 1, 1, 1, 1]) env (retQ Tryz.prog Tryz.f8 (FLPost w)) z) (retQ Tryz.prog Tryz.f8 (FLPost w)))) u := by
  have hSl : S.length ≤ M.length := by rcases hSM with e | e <;> subst e <;> simp [seenOf]
  refine loop_rule mix (fun m env z => ∃ (i : Nat) (jj : List Value), m = S.length - i ∧ i ≤ S.length ∧ env = bodegalaw16_FetchLocks_env3 a n c a' M.length c' s S.length sc i jj ∧ New u z) S.length
    ⟨0, _, by omega, by omega, rfl, Keep.refl _ _⟩ ?_
  rintro m env z ⟨i, jj, rfl, hi, rfl, hnz⟩
  rw [bodegalaw16_FetchLocks_loop3_body]
  refine bif_dec (fun hp => ?_) (fun hp => ?_)
  · rintro z1 hz1
    have hn1 : New z z1 := by rw [hz1]; exact new_drew _
    clear hz1
    have hlt : i < S.length := by omega
    have hg : M[i]? = some M[i] := List.getElem?_eq_getElem (by omega)
    have hgS : S[i]? = some ⟨M[i].Line, M[i].Head⟩ := by
      rcases hSM with e | e
      · subst e; simp [seenOf, hg]
      · subst e; simp at hlt
    have hS1 := hS.new (hnz.new hn1)
    have hM1 := hM.rd.new (hnz.new hn1)
    refine ⟨fun y => New z1 y, Keep.refl _ _, ?_⟩
    refine rd_recS (cells := ApiSeenR.cells) ApiSeenR.len (by omega) hS1 hgS rfl rfl fun b o hc => ⟨_, fun y hy => hc y hy 0 _ rfl, ?_⟩
    refine rd_recS (cells := ApiPageR.cells) ApiPageR.len (by omega) hM1 hg rfl rfl fun b' o' hc' => ⟨_, fun y hy => hc' y hy 0 _ rfl, bif_bne (fun e => absurd rfl e) (fun _ => ?_)⟩
    refine rd_recS (cells := ApiSeenR.cells) ApiSeenR.len (by omega) hS1 hgS rfl rfl fun b o hc => ⟨_, fun y hy => hc y hy 1 _ rfl, ?_⟩
    refine rd_recS (cells := ApiPageR.cells) ApiPageR.len (by omega) hM1 hg rfl rfl fun b' o' hc' => ⟨_, fun y hy => hc' y hy 1 _ rfl, bif_bne (fun e => absurd rfl e) (fun _ => ?_)⟩
    rw [w64 (by omega) (by omega)]
    exact ⟨S.length - (i + 1), by omega, i + 1, _, rfl, by omega, rfl, hnz.new hn1⟩
  · exact FL_aft3 (hn.new hnz) hL (hM.new hnz) hLf hMf _

theorem FL_awake (hn : New w u) (hL : PgsAt w a n L) (hM : PgsAt u a' M.length M) (hLf : L.length ≤ 40) (hMf : M.length ≤ 40) (hS : Rd u s (snrows S).flatten) (hSM : S = seenOf M ∨ S = []) (J : Bool → List Value) :
    Calls Tryz.prog 34 #[] u fun e u1 => ∃ r : Bool, e = .returned (.bool r) ∧ (bif (!r) then FLPost w (.bool false) u1 else
      codeW Tryz.prog (.loop (sub (bodyOf Tryz.f8) [1, 1, 1, 1, 1, 1, 1, 1, 0, 1, 0, 0])) (bodegalaw16_FetchLocks_env3 a n c a' M.length c' s S.length sc 0 (J r)) (blockQ 4 (seqQ (fun env z => W Tryz.prog (sub (bodyOf Tryz.f8) [1, 1, 1, 1, 1, 1, 1, 1, 1]) env (retQ Tryz.prog Tryz.f8 (FLPost w)) z) (retQ Tryz.prog Tryz.f8 (FLPost w)))) u1) := by
  refine at_call (Go.Mx.awake16_c u) ?_
  rintro x u1 ⟨rfl, hn1⟩
  exact ⟨_, rfl, bif_f rfl (FL_loop3 (hn.new hn1) hL (hM.new hn1) hLf hMf (hS.new hn1) hSM _)⟩

set_option maxHeartbeats 1000000 in
theorem FL_tail (hn : New w u) (hL : PgsAt w a n L) (hM : PgsAt u a' M.length M) (hLf : L.length ≤ 40) (hMf : M.length ≤ 40) (jj : List Value) :
    W Tryz.prog (sub (bodyOf Tryz.f8) [1, 1, 1, 1]) (bodegalaw16_FetchLocks_aft1 a n c a' M.length c' jj) (retQ Tryz.prog Tryz.f8 (FLPost w)) u := by
  rw [bodegalaw16_FetchLocks_aft1_vc]
  refine at_call (Seen_c hM) ?_
  rintro x u1 ⟨s, sc, S, rfl, hS, hSe, hn1⟩
  refine ⟨_, _, _, _, rfl, ?_⟩
  generalize hE : (if M.all (fun p => unl p.Head) = true then (0 : Int) else 3) = E
  refine loop_rule mix (fun m env z => ∃ (i : Nat) (busy : Bool) (jj : List Value), m = M.length - i ∧ i ≤ M.length ∧ env = bodegalaw16_FetchLocks_env2 a n c a' M.length c' s S.length sc E busy i jj ∧ z = u1 ∧ busy = !((M.take i).all fun p => unl p.Head)) M.length
    ⟨0, false, _, by omega, by omega, rfl, rfl, rfl⟩ ?_
  rintro m env z ⟨i, busy, jj, rfl, hi, rfl, rfl, hb⟩
  refine qr_mp (P := Tryz.prog) (fn := Tryz.f8) (R := FLPost w) (fun _ _ => rfl) ?_
  rw [bodegalaw16_FetchLocks_loop2_body]
  refine bif_dec (fun hp => bif_b (fun ht => ?_) (fun hf => ?_)) (fun hp => ?_)
  · refine seqQ_n ?_
    rw [w64 (by omega) (by omega)]
    refine ⟨M.length - (i + 1), by omega, i + 1, true, _, rfl, by omega, rfl, rfl, ?_⟩
    subst ht
    have : ((M.take i).all fun p => unl p.Head) = false := by simpa using hb.symm
    rw [List.take_add_one, List.all_append, this]
    rfl
  · have hg : M[i]? = some M[i] := List.getElem?_eq_getElem (by omega)
    refine rd_rec (cells := ApiPageR.cells) ApiPageR.len (by omega) (hM.rd.new hn1) hg rfl rfl fun b o _ hcc => ⟨_, hcc 1 _ rfl, ?_⟩
    refine seqQ_n ?_
    rw [w64 (by omega) (by omega)]
    refine ⟨M.length - (i + 1), by omega, i + 1, _, _, rfl, by omega, rfl, rfl, ?_⟩
    subst hf
    have : ((M.take i).all fun p => unl p.Head) = true := by simpa using hb.symm
    rw [List.take_add_one, List.all_append, this, hg]
    simp [unl, bne]
  · have hin : i = M.length := by omega
    subst hin
    rw [List.take_length] at hb
    refine seqQ_x (blockQ_x (seqQ_n ?_))
    have hn01 := hn.new hn1
    have hM1 := hM.new hn1
    cases hall : (M.all fun p => unl p.Head) with
    | true =>
      rw [hall] at hb hE
      rw [if_pos hall] at hSe
      simp at hb hE
      subst hb hE
      have hlen : S.length = M.length := by rw [hSe]; simp [seenOf]
      rw [bodegalaw16_FetchLocks_aft2_vcA]
      refine bif_f (by simp [hlen]) ?_
      exact FL_awake hn01 hL hM1 hLf hMf hS (.inl hSe) _
    | false =>
      rw [hall] at hb hE
      rw [if_neg (by rw [hall]; simp)] at hSe
      simp at hb hE
      subst hb hE
      rw [bodegalaw16_FetchLocks_aft2_vcB]
      refine bif_f (by simp [hSe]) ?_
      exact FL_awake hn01 hL hM1 hLf hMf hS (.inr hSe) _

set_option maxHeartbeats 1000000 in
theorem FetchLocks_c (w : World) {a b : Option Addr} {c d : Nat} {L : List ApiPageR} {os : List Int} (hL : Rd w a (pgrows L).flatten) (hu : ∀ p ∈ L, U64 p.Head) (hO : Rd w b (is os)) (hoi : ∀ x ∈ os, I64 x) :
    Does 8 [.slice a L.length c, .slice b os.length d] w (FLPost w) := by
  refine does Tryz.func8 ?_
  rw [bodegalaw16_FetchLocks_vc]
  refine bif_dec (fun _ => ⟨rfl, Keep.refl _ _⟩) (fun h40 => bif_dec (fun _ => ⟨rfl, Keep.refl _ _⟩) (fun h41 => ?_))
  have hPL : PgsAt w a L.length L := ⟨hL, rfl, by omega, hu⟩
  have nil9 : Owns w TPg 9 none 0 0 (pgrows []).flatten := Owns.nil _ _ _
  refine app_k (Keep.refl _ w) nil9 (nope _) hL rfl (by omega) fun a' c' w1 hn1 ho1 hf1 => ?_
  rw [Nat.zero_add] at ho1 ⊢
  rw [List.nil_append] at ho1
  refine loop_rule mix (fun m env z => ∃ (i : Nat) (M : List ApiPageR) (jj : List Value), m = L.length - i ∧ i ≤ L.length ∧ M.length = L.length ∧ env = bodegalaw16_FetchLocks_env1 a L.length c b os.length d a' L.length c' i jj ∧ New w z ∧ Owns z TPg 9 a' L.length c' (pgrows M).flatten ∧ ∀ p ∈ M, U64 p.Head) L.length
    ⟨0, L, _, by omega, by omega, rfl, rfl, hn1, ho1, hu⟩ ?_
  rintro m env z ⟨i, M, jj, rfl, hi, hMl, rfl, hnz, hown, hMu⟩
  have tail : ∀ jj, W Tryz.prog (sub (bodyOf Tryz.f8) [1, 1, 1, 1]) (bodegalaw16_FetchLocks_aft1 a L.length c a' L.length c' jj) (retQ Tryz.prog Tryz.f8 (FLPost w)) z := fun jj => by
    have := FL_tail (c := c) (c' := c') hnz hPL (⟨hown.rd, rfl, by omega, hMu⟩ : PgsAt z a' M.length M) (by omega) (by omega) jj
    rw [hMl] at this
    exact this
  refine qr_mp (P := Tryz.prog) (fn := Tryz.f8) (R := FLPost w) (fun _ _ => rfl) ?_
  rw [bodegalaw16_FetchLocks_loop1_body]
  refine bif_dec (fun hp => bif_dec (fun hq => ?_) (fun _ => seqQ_x (blockQ_x (seqQ_n (tail _))))) (fun _ => seqQ_x (blockQ_x (seqQ_n (tail _))))
  have hgo : os[i]? = some os[i] := List.getElem?_eq_getElem (by omega)
  have hg : M[i]? = some M[i] := List.getElem?_eq_getElem (by omega)
  refine rd_i (hO.new hnz) hgo rfl rfl fun bb o hc => ⟨_, hc _ (Keep.refl _ _), ?_⟩
  refine at_call (Pick_c z os[i] 4 (hoi _ (List.getElem_mem (by omega))) (by omega)) ?_
  rintro x z2 ⟨rfl, rfl⟩
  refine ⟨_, rfl, ?_⟩
  have hdu := u64_wrap (256 + IntKind.u64.wrap (if (4 : Int) < 1 then 0 else os[i] % 4))
  generalize (IntKind.u64.wrap (256 + _)) = hd at hdu
  refine set_row (cells := ApiPageR.cells) ApiPageR.len hown hg hMl.symm (k := 1) (y := { M[i] with Head := hd }) (by omega) rfl (z := i) rfl (F := fun ad => ⟨ad.block, ad.off + 1, none⟩) (fun _ _ => rfl) fun ad u7 hk7 ho7 => ?_
  refine seqQ_n ?_
  rw [w64 (by omega) (by omega)]
  refine ⟨L.length - (i + 1), by omega, i + 1, _, _, rfl, by omega, by simpa using hMl, rfl, ?_, ho7, fun x hx => ?_⟩
  · exact hnz.trans hk7 fun k hlt e => by have := hf1 k e; omega
  · rcases List.mem_or_eq_of_mem_set hx with hx | rfl
    · exact hMu x hx
    · exact hdu
end Go.Proofs.YtjifihffjmbjfaaGreat
