/- A proposer that is alone on the fabric: what it does to the nodes, and how it ends. -/
import Derived.Test.YteaknokogenndaaGreatLone2
set_option linter.unusedVariables false
namespace Go.Proofs.YteaknokogenndaaGreat
open Go.Eng

/-! ### Verbs of a proposer at a node -/

structure NodeOk (lines : Nat) (n : NodeS) : Prop where
  len : n.words.length = lines * 8
  l98 : 98 ≤ lines
  l256 : lines ≤ 256

def rep (a : Nat) (n : NodeS) : Done := if n.down = true then ⟨4, []⟩ else ⟨0, [n.get a]⟩

theorem rd_valid {i : Int} {a : Nat} {n lines : Int} (hn : 1 ≤ n ∧ n ≤ 5) (hi : 0 ≤ i ∧ i < n) (ha : 8 ≤ a ∧ a ≤ 23) (hl : 98 ≤ lines ∧ lines ≤ 256) : (rdVerb i a).v.valid n lines = 0 := by
  have hc : (rdVerb i a).v.count = 1 := rfl
  have hin : (rdVerb i a).v.inside n lines = true := by
    unfold VerbV.inside
    rw [decide_eq_true_iff]
    have e0 : (rdVerb i a).v.l0 = (a : Int) / 8 := rfl
    have e1 : (rdVerb i a).v.l1 = ((a : Int) + 1 - 1) / 8 := rfl
    have e2 : (rdVerb i a).v.Node = i := rfl
    have e3 : (rdVerb i a).v.At = a := rfl
    rw [hc, e0, e1, e2, e3]
    omega
  have e1 : (rdVerb i a).v.l1 = ((a : Int) + 1 - 1) / 8 := rfl
  have e4 : (rdVerb i a).v.last = 3 := rfl
  unfold VerbV.valid
  rw [hc, hin, e1, e4, if_neg (by omega), if_neg (by simp), if_neg (by omega)]

theorem cas_valid {i old new : Int} {a : Nat} {n lines : Int} (hn : 1 ≤ n ∧ n ≤ 5) (hi : 0 ≤ i ∧ i < n) (ha : 8 ≤ a ∧ a ≤ 23) (hl : 98 ≤ lines ∧ lines ≤ 256) : (casVerb i a old new).v.valid n lines = 0 := by
  have hc : (casVerb i a old new).v.count = 1 := rfl
  have e1 : (casVerb i a old new).v.l1 = ((a : Int) + 1 - 1) / 8 := rfl
  have e4 : (casVerb i a old new).v.last = 2 := rfl
  have hin : (casVerb i a old new).v.inside n lines = true := by
    unfold VerbV.inside
    rw [decide_eq_true_iff]
    have e0 : (casVerb i a old new).v.l0 = (a : Int) / 8 := rfl
    have e2 : (casVerb i a old new).v.Node = i := rfl
    have e3 : (casVerb i a old new).v.At = a := rfl
    rw [hc, e0, e1, e2, e3]
    omega
  unfold VerbV.valid
  rw [hc, hin, e1, e4, if_neg (by omega), if_neg (by simp), if_neg (by omega)]

theorem NodeOk.div {lines : Nat} {n : NodeS} (h : NodeOk lines n) : n.words.length / 8 = lines := by have := h.len; omega

theorem refuse_zero {inc client : Int} {x : Verb} {n : NodeS} (hd : n.down = false) (hv : x.v.valid 5 (n.words.length / 8 : Nat) = 0) (hk : x.v.check inc (n.get (24 + client).toNat) (n.get 0) (n.get 1) = 0) : refuse inc client x n = 0 := by
  unfold refuse
  rw [if_neg (by rw [hd]; simp), if_neg (fun e => e hv)]
  exact hk

theorem refuse_down {inc client : Int} {x : Verb} {n : NodeS} (hd : n.down = true) : refuse inc client x n = 4 := by
  unfold refuse
  rw [if_pos hd]

theorem serve_ok {inc client : Int} {x : Verb} {n : NodeS} (h : refuse inc client x n = 0) : serve inc client x n = (⟨0, (exec x (x.at_, 1) n).2⟩, (exec x (x.at_, 1) n).1) := by
  unfold serve
  rw [if_neg (fun e => e h)]

theorem serve_no {inc client : Int} {x : Verb} {n : NodeS} (h : refuse inc client x n ≠ 0) : serve inc client x n = (⟨refuse inc client x n, []⟩, n) := by
  unfold serve
  rw [if_pos h]

theorem serve_rd {inc : Int} {c i lines a : Nat} {n : NodeS} (h : NodeOk lines n) (hi : i < 5) (ha : 8 ≤ a ∧ a ≤ 23) : serve inc c (rdVerb i a) n = (rep a n, n) := by
  have hv : (rdVerb i a).v.valid 5 (n.words.length / 8 : Nat) = 0 := by
    rw [h.div]
    exact rd_valid (by omega) (by omega) ha (by have := h.l98; have := h.l256; omega)
  have hcls : (rdVerb i a).v.cls = 1 := by
    unfold VerbV.cls
    have e0 : (rdVerb i a).v.l0 = (a : Int) / 8 := rfl
    have e4 : (rdVerb i a).v.last = 3 := rfl
    rw [e0, e4, if_pos (by omega)]
  have hck : ∀ d k b, (rdVerb i a).v.check inc d k b = 0 := by
    intro d k b
    unfold VerbV.check
    rw [if_pos ⟨hcls, rfl⟩]
  unfold rep
  cases hd : n.down with
  | true => rw [serve_no (by rw [refuse_down hd]; decide), refuse_down hd]; simp
  | false =>
    rw [serve_ok (refuse_zero hd hv (hck _ _ _))]
    have hlen := h.len
    have hlt : a < n.words.length := by have := h.l98; omega
    have hx : exec (rdVerb i a) ((rdVerb i a).at_, 1) n = (n, [n.get a]) := by
      unfold exec
      rw [if_pos (show (rdVerb i a).kind = 1 from rfl)]
      show (n, n.read (a : Int) 1) = _
      congr 1
      unfold NodeS.read
      rw [Int.toNat_natCast, List.drop_eq_getElem_cons hlt]
      have hs := NodeS.get_some hlt
      rw [List.getElem?_eq_getElem hlt] at hs
      rw [Option.some.inj hs]
      rfl
    rw [hx]
    simp

theorem serve_cas {inc : Int} {c i lines a : Nat} {old new : Int} {n : NodeS} (h : NodeOk lines n) (hi : i < 5) (ha : 8 ≤ a ∧ a ≤ 23) (hinc : 0 ≤ inc) (hdoor : n.get (24 + c) ≤ inc) (hd : n.down = false) (hold : n.get a = old) :
    serve inc c (casVerb i a old new) n = (⟨0, [old]⟩, { n with words := n.words.set a new }) := by
  have hv : (casVerb i a old new).v.valid 5 (n.words.length / 8 : Nat) = 0 := by
    rw [h.div]
    exact cas_valid (by omega) (by omega) ha (by have := h.l98; have := h.l256; omega)
  have hcls : (casVerb i a old new).v.cls = 1 := by
    unfold VerbV.cls
    have e0 : (casVerb i a old new).v.l0 = (a : Int) / 8 := rfl
    have e4 : (casVerb i a old new).v.last = 2 := rfl
    rw [e0, e4, if_pos (by omega)]
  have hk3 : (casVerb i a old new).v.Kind = 3 := rfl
  have hck : ∀ k b, (casVerb i a old new).v.check inc (n.get (24 + (c : Int)).toNat) k b = 0 := by
    intro k b
    unfold VerbV.check
    have e : (24 + (c : Int)).toNat = 24 + c := by omega
    rw [hcls, hk3, e, if_neg (by omega), if_neg (by omega), if_pos rfl]
  rw [serve_ok (refuse_zero hd hv (hck _ _))]
  have hx : exec (casVerb i a old new) ((casVerb i a old new).at_, 1) n = ({ n with words := n.words.set a new }, [old]) := by
    unfold exec
    have k3 : (casVerb i a old new).kind = 3 := rfl
    rw [if_neg (by rw [k3]; decide), if_neg (by rw [k3]; decide), if_pos k3]
    show (n.cas (a : Int) old new, [n.get (a : Int).toNat]) = _
    unfold NodeS.cas
    rw [Int.toNat_natCast, if_pos hold, hold]
  rw [hx]

/-! ### The nodes that answer -/

def upsFrom (a : Nat) : Nat → List NodeS → List Acc
  | _, [] => []
  | i, n :: ns => if n.down = true then upsFrom a (i + 1) ns else ⟨i, n.get a⟩ :: upsFrom a (i + 1) ns

theorem readGo_ups (a : Nat) : ∀ (N : List NodeS) (i : Nat) (acc : List Acc) (g : Int), ∃ g', readGo i (N.map (rep a)) acc g = (acc ++ upsFrom a i N, g')
  | [], i, acc, g => ⟨g, by simp [readGo, upsFrom]⟩
  | n :: N, i, acc, g => by
    unfold upsFrom
    rw [List.map_cons]
    unfold readGo rep
    cases hd : n.down with
    | true =>
      simp only [if_true]
      rw [if_neg (by decide)]
      exact readGo_ups a N (i + 1) acc g
    | false =>
      simp only [Bool.false_eq_true, if_false, if_true]
      obtain ⟨g', h⟩ := readGo_ups a N (i + 1) (acc ++ [⟨i, wordOf ⟨0, [n.get a]⟩⟩]) (max g (cwP (wordOf ⟨0, [n.get a]⟩)))
      refine ⟨g', ?_⟩
      rw [show (fun n => if n.down = true then (⟨4, []⟩ : Done) else ⟨0, [n.get a]⟩) = rep a from rfl] at *
      rw [h]
      simp [wordOf]

theorem ups_mem {a : Nat} : ∀ {N : List NodeS} {i : Nat} {x : Acc}, x ∈ upsFrom a i N → ∃ (k : Nat) (n : NodeS), N[k]? = some n ∧ n.down = false ∧ x = ⟨((i + k : Nat) : Int), n.get a⟩
  | [], i, x, h => by simp [upsFrom] at h
  | n :: N, i, x, h => by
    unfold upsFrom at h
    cases hd : n.down with
    | true =>
      rw [hd] at h
      simp only [if_true] at h
      obtain ⟨k, m, h1, h2, h3⟩ := ups_mem h
      exact ⟨k + 1, m, by simpa using h1, h2, by rw [h3]; congr 2; omega⟩
    | false =>
      rw [hd] at h
      simp only [Bool.false_eq_true, if_false] at h
      rcases List.mem_cons.1 h with rfl | h
      · exact ⟨0, n, rfl, hd, by simp⟩
      · obtain ⟨k, m, h1, h2, h3⟩ := ups_mem h
        exact ⟨k + 1, m, by simpa using h1, h2, by rw [h3]; congr 2; omega⟩

theorem ups_of {a : Nat} : ∀ {N : List NodeS} {i k : Nat} {n : NodeS}, N[k]? = some n → n.down = false → (⟨((i + k : Nat) : Int), n.get a⟩ : Acc) ∈ upsFrom a i N
  | [], i, k, n, h, _ => by simp at h
  | m :: N, i, 0, n, h, hd => by
    simp at h
    subst h
    unfold upsFrom
    rw [hd]
    simp
  | m :: N, i, k + 1, n, h, hd => by
    have := ups_of (a := a) (N := N) (i := i + 1) (k := k) (by simpa using h) hd
    unfold upsFrom
    rw [show i + (k + 1) = i + 1 + k by omega]
    split
    · exact this
    · exact List.mem_cons_of_mem _ this

theorem ups_sorted (a : Nat) : ∀ (N : List NodeS) (i : Nat), (upsFrom a i N).Pairwise fun x y => x.node < y.node
  | [], i => by simp [upsFrom]
  | n :: N, i => by
    unfold upsFrom
    split
    · exact ups_sorted a N (i + 1)
    · refine List.pairwise_cons.2 ⟨fun y hy => ?_, ups_sorted a N (i + 1)⟩
      obtain ⟨k, m, _, _, rfl⟩ := ups_mem hy
      show (i : Int) < ((i + 1 + k : Nat) : Int)
      omega

theorem sorted_inj : ∀ {l : List Acc}, (l.Pairwise fun x y => x.node < y.node) → ∀ (k k' : Nat) (x y : Acc), l[k]? = some x → l[k']? = some y → x.node = y.node → k = k'
  | [], _, k, k', x, y, h, _, _ => by simp at h
  | a :: l, hp, 0, 0, x, y, _, _, _ => rfl
  | a :: l, hp, 0, k' + 1, x, y, h1, h2, he => by
    simp at h1 h2
    subst h1
    have := (List.pairwise_cons.1 hp).1 y (List.mem_of_getElem? h2)
    omega
  | a :: l, hp, k + 1, 0, x, y, h1, h2, he => by
    simp at h1 h2
    subst h2
    have := (List.pairwise_cons.1 hp).1 x (List.mem_of_getElem? h1)
    omega
  | a :: l, hp, k + 1, k' + 1, x, y, h1, h2, he => by
    have := sorted_inj (List.pairwise_cons.1 hp).2 k k' x y (by simpa using h1) (by simpa using h2) he
    omega

theorem swap_all (nx : Int → Int) : ∀ (l : List Acc) (n : Nat) (acc : List Acc) (g : Int), swapGo nx l (l.map fun x => ⟨0, [x.word]⟩) n acc g = (n + l.length, acc ++ l.map (fun x => ⟨x.node, nx x.word⟩), g)
  | [], n, acc, g => by simp [swapGo]
  | x :: l, n, acc, g => by
    rw [List.map_cons]
    unfold swapGo
    rw [if_neg (by simp), if_neg (by simp [wordOf]), swap_all nx l]
    simp [wordOf]
    omega

theorem fitL_of {vs : List Verb} {ds : List Done} (hl : vs.length = ds.length) (h : ∀ (k : Nat) (v : Verb) (d : Done), vs[k]? = some v → ds[k]? = some d → fitP v d = true) : fitL vs ds = true := by
  unfold fitL
  rw [Bool.and_eq_true]
  refine ⟨by simpa using hl, ?_⟩
  rw [List.all_eq_true]
  intro p hp
  obtain ⟨k, hk⟩ := List.mem_iff_getElem?.1 hp
  obtain ⟨v, d⟩ := p
  rw [List.getElem?_zip_eq_some] at hk
  exact h k v d hk.1 hk.2

theorem batch_cons {vs : List Verb} {d : List Done} {G : List (List Done)} (h0 : 0 < vs.length) (hf : fitL vs d = true) : batch (d :: G) vs = ⟨d, true, G, none, false⟩ := by
  unfold batch
  rw [if_neg (by omega)]
  dsimp only
  rw [if_pos hf]

theorem batch_nil {vs : List Verb} (h0 : 0 < vs.length) : batch [] vs = ⟨[], false, [], some vs, false⟩ := by
  unfold batch
  rw [if_neg (by omega)]

theorem firstBad_of {n lines : Int} : ∀ {vs : List Verb}, (∀ v ∈ vs, v.v.valid n lines = 0) → firstBad n lines vs = 0
  | [], _ => rfl
  | v :: vs, h => by
    unfold firstBad
    rw [if_neg (fun e => e (h v List.mem_cons_self))]
    exact firstBad_of fun x hx => h x (List.mem_cons_of_mem _ hx)
end Go.Proofs.YteaknokogenndaaGreat
