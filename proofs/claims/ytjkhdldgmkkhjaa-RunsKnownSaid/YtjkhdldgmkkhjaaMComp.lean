/- Neighbours that are the same are left out: the list of it; rows of two cells an element, written in place. -/
import Derived.Laws.Tables
import Derived.Laws.IdiomCopy
import Derived.Test.YtjkhdldgmkkhjaaMOrd
set_option linter.unusedVariables false
set_option linter.unusedSimpArgs false
set_option linter.unnecessarySimpa false
namespace Go.Proofs.Ytjkhdldgmkkhjaa.M
open Go.RowKit Go.Sort
def ddF {α : Type} (eq : α → α → Bool) : α → List α → List α
  | _, [] => []
  | p, y :: m => if eq y p then ddF eq y m else y :: ddF eq y m
/-- of neighbours that are the same the first is left -/
def dd {α : Type} (eq : α → α → Bool) : List α → List α
  | [] => []
  | x :: m => x :: ddF eq x m
theorem ddF_snoc {α : Type} (eq : α → α → Bool) : ∀ (l : List α) (p y : α), ddF eq p (l ++ [y]) = ddF eq p l ++ if eq y (l.getLastD p) then [] else [y]
  | [], p, y => by simp [ddF]
  | z :: m, p, y => by
    have := ddF_snoc eq m z y
    simp only [List.cons_append, ddF, this, List.getLastD_cons]
    by_cases h : eq z p <;> simp [h]
theorem dd_next {α : Type} (eq : α → α → Bool) (l : List α) (j : Nat) (h0 : 0 < j) (h : j < l.length) : dd eq (l.take (j + 1)) = dd eq (l.take j) ++ if eq l[j] (l[j - 1]'(by omega)) then [] else [l[j]] := by
  obtain ⟨i, rfl⟩ : ∃ i, j = i + 1 := ⟨j - 1, by omega⟩
  rw [← List.take_append_getElem h]
  cases l with
  | nil => simp at h
  | cons x m =>
    have h2 : i < m.length := by simpa using h
    simp only [List.take_succ_cons, List.cons_append, dd, ddF_snoc, List.getElem_cons_succ, Nat.add_sub_cancel]
    have : (m.take i).getLastD x = (x :: m)[i]'(by simp; omega) := by
      cases i with
      | zero => simp
      | succ i =>
        have h3 : i < m.length := by omega
        rw [← List.take_append_getElem h3]
        simp only [List.getLastD_concat, List.getElem_cons_succ]
    rw [this]
theorem ddF_sub {α : Type} (eq : α → α → Bool) : ∀ (l : List α) (p : α), (ddF eq p l).Sublist l
  | [], _ => .slnil
  | y :: m, p => by
    unfold ddF
    split
    · exact (ddF_sub eq m y).cons _
    · exact (ddF_sub eq m y).cons_cons _
theorem dd_sub {α : Type} (eq : α → α → Bool) : ∀ (l : List α), (dd eq l).Sublist l
  | [] => .slnil
  | x :: m => (ddF_sub eq m x).cons_cons _
theorem dd_one {α : Type} (eq : α → α → Bool) (l : List α) (h : l.length ≤ 1) : dd eq l = l := by
  match l, h with
  | [], _ => rfl
  | [x], _ => rfl
theorem ddF_map {α β : Type} (f : α → β) (eq : β → β → Bool) : ∀ (l : List α) (p : α), (ddF (fun x y => eq (f x) (f y)) p l).map f = ddF eq (f p) (l.map f)
  | [], _ => rfl
  | y :: m, p => by
    simp only [ddF, List.map_cons]
    split <;> simp [ddF_map f eq m y]
theorem dd_map {α β : Type} (f : α → β) (eq : β → β → Bool) : ∀ (l : List α), (dd (fun x y => eq (f x) (f y)) l).map f = dd eq (l.map f)
  | [] => rfl
  | x :: m => by simp [dd, ddF_map]
section
variable {α : Type} {cmp : α → α → Int}
theorem TotalCmp.ddF_sorted (T : TotalCmp cmp) : ∀ (l : List α) (p : α), (p :: l).Pairwise (fun x y => ¬ cmp y x < 0) → (p :: ddF (fun x y => decide (cmp x y = 0)) p l).Pairwise (fun x y => cmp x y < 0)
  | [], _, _ => by simp [ddF]
  | y :: m, p, h => by
    obtain ⟨h1, h2⟩ := List.pairwise_cons.1 h
    have ih := TotalCmp.ddF_sorted T m y h2
    unfold ddF
    by_cases e : cmp y p = 0
    · rw [if_pos (by simpa using e)]
      have := T.zero.1 e
      subst this
      exact ih
    · rw [if_neg (by simpa using e)]
      have h3 : ¬ cmp y p < 0 := h1 y (by simp)
      have h4 : cmp p y < 0 := by have := T.anti y p; omega
      refine List.pairwise_cons.2 ⟨fun z hz => ?_, ih⟩
      rcases List.mem_cons.1 hz with rfl | hz
      · exact h4
      · exact T.trans h4 ((List.pairwise_cons.1 ih).1 z hz)
theorem TotalCmp.ddF_mem (T : TotalCmp cmp) : ∀ (l : List α) (p z : α), z ∈ p :: ddF (fun x y => decide (cmp x y = 0)) p l ↔ z ∈ p :: l
  | [], _, _ => by simp [ddF]
  | y :: m, p, z => by
    have ih := TotalCmp.ddF_mem T m y z
    unfold ddF
    by_cases e : cmp y p = 0
    · rw [if_pos (by simpa using e)]
      have := T.zero.1 e
      subst this
      rw [ih]
      simp
    · rw [if_neg (by simpa using e), List.mem_cons, ih, List.mem_cons (a := z) (b := p)]
theorem TotalCmp.dd_once (T : TotalCmp cmp) {l m : List α} (h : l.Pairwise (fun x y => ¬ cmp y x < 0)) (hm : ∀ x, x ∈ l ↔ x ∈ m) : dd (fun x y => decide (cmp x y = 0)) l = onceC cmp m := by
  refine T.unique ?_ (T.once_sorted m) (fun x => ?_)
  · cases l with
    | nil => exact List.Pairwise.nil
    | cons x l => exact T.ddF_sorted l x h
  · rw [T.mem_once, ← hm x]
    cases l with
    | nil => simp [dd]
    | cons y l => exact T.ddF_mem l y x
end

theorem take_set_next {α : Type} (l : List α) (k : Nat) (x : α) (h : k < l.length) : (l.set k x).take (k + 1) = l.take k ++ [x] := by
  apply List.ext_getElem?
  intro t
  rw [List.getElem?_take, List.getElem?_append, List.getElem?_set, List.getElem?_take]
  simp only [List.length_take]
  repeat' split
  all_goals (first | rfl | omega | skip)
  all_goals (first | (have e : t - min k l.length = 0 := by omega); rw [e]; rfl | (rw [List.getElem?_eq_none (by simp; omega)]) | skip)
/-! ### rows of two cells an element -/
section
variable {α : Type} {enc : α → List Value}
theorem flat_len (hk : ∀ x, (enc x).length = 2) : ∀ (l : List α), (l.flatMap enc).length = l.length * 2
  | [] => rfl
  | x :: l => by simp [flat_len hk l, hk]; omega
theorem flat_take (hk : ∀ x, (enc x).length = 2) : ∀ (l : List α) (i : Nat), (l.flatMap enc).take (i * 2) = (l.take i).flatMap enc
  | [], _ => by simp
  | x :: l, 0 => by simp
  | x :: l, i + 1 => by
    rw [List.take_succ_cons, List.flatMap_cons, List.flatMap_cons, List.take_append, hk, show (i + 1) * 2 - 2 = i * 2 by omega, flat_take hk l i, List.take_of_length_le (by rw [hk]; omega)]
theorem flat_get (hk : ∀ x, (enc x).length = 2) : ∀ (l : List α) (i : Nat) (h : i < l.length) (a b : Value), enc l[i] = [a, b] → (l.flatMap enc)[i * 2]? = some a ∧ (l.flatMap enc)[i * 2 + 1]? = some b
  | x :: l, 0, _, a, b, e => by
    simp only [List.getElem_cons_zero] at e
    simp [e]
  | x :: l, i + 1, h, a, b, e => by
    have ih := flat_get hk l i (by simpa using h) a b (by simpa using e)
    rw [List.flatMap_cons, List.getElem?_append_right (by rw [hk]; omega), List.getElem?_append_right (by rw [hk]; omega), hk, show (i + 1) * 2 - 2 = i * 2 by omega, show (i + 1) * 2 + 1 - 2 = i * 2 + 1 by omega]
    exact ih
theorem flat_set (hk : ∀ x, (enc x).length = 2) : ∀ (l : List α) (i : Nat) (p : α) (a b : Value), enc p = [a, b] → ((l.set i p).flatMap enc) = ((l.flatMap enc).set (i * 2) a).set (i * 2 + 1) b
  | [], _, _, _, _, _ => by simp
  | x :: l, 0, p, a, b, e => by
    have h := hk x
    match hx : enc x, h with
    | [u, v], _ => simp [e, hx]
  | x :: l, i + 1, p, a, b, e => by
    have ih := flat_set hk l i p a b e
    rw [List.set_cons_succ, List.flatMap_cons, ih, List.flatMap_cons, List.set_append_right _ _ (by rw [hk]; omega), List.set_append_right _ _ (by rw [hk]; omega), hk, show (i + 1) * 2 - 2 = i * 2 by omega, show (i + 1) * 2 + 1 - 2 = i * 2 + 1 by omega]
/-- a block of rows of two cells -/
def Has2 (enc : α → List Value) (w : World) (g : Nat) (e : TypeId) (cap : Nat) (rows : List α) : Prop := ∃ cur, w.heap[g]? = some (.cells cur e (0, 0)) ∧ cur.size = cap * 2 ∧ rows.length ≤ cap ∧ cur.toList.take (rows.length * 2) = rows.flatMap enc
variable {w w' : World} {g cap : Nat} {e : TypeId} {rows : List α}
theorem Has2.of_own {base n : Nat} (hn : n = rows.length) (h : w.ownsRow base e 2 (.slice (some ⟨g, 0, none⟩) n cap) n (rows.flatMap enc)) : Has2 enc w g e cap rows ∧ base ≤ g ∧ cap ≤ maxLen := by
  subst hn
  rcases h.2 with ⟨h1, _⟩ | ⟨g', c, cur, h1, h2, h3, h4, h5, h6, h7⟩
  · cases h1
  · cases h1; exact ⟨⟨cur, h3, h6, h4, h7⟩, h2, h5⟩
theorem Has2.own (hk : ∀ x, (enc x).length = 2) (h : Has2 enc w g e cap rows) {base : Nat} (hb : base ≤ g) (hc : cap ≤ maxLen) : w.ownsRow base e 2 (.slice (some ⟨g, 0, none⟩) rows.length cap) rows.length (rows.flatMap enc) := by
  obtain ⟨cur, h1, h2, h3, h4⟩ := h
  exact ⟨flat_len hk rows, .inr ⟨g, cap, cur, rfl, hb, h1, h3, hc, h2, h4⟩⟩
theorem Has2.lt (h : Has2 enc w g e cap rows) : g < w.heap.size := by
  obtain ⟨cur, h1, _⟩ := h
  exact (Array.getElem?_eq_some_iff.1 h1).1
theorem Has2.move (h : Has2 enc w g e cap rows) (hw : w'.heap[g]? = w.heap[g]?) : Has2 enc w' g e cap rows := by
  obtain ⟨cur, h1, h2⟩ := h
  exact ⟨cur, hw.trans h1, h2⟩
theorem Has2.take (hk : ∀ x, (enc x).length = 2) (h : Has2 enc w g e cap rows) (k : Nat) : Has2 enc w g e cap (rows.take k) := by
  obtain ⟨cur, h1, h2, h3, h4⟩ := h
  refine ⟨cur, h1, h2, by simp; omega, ?_⟩
  rw [← flat_take hk, ← h4, List.take_take, List.length_take]
  congr 1
  omega
theorem Has2.cell (hk : ∀ x, (enc x).length = 2) (h : Has2 enc w g e cap rows) (i : Nat) (hi : i < rows.length) {a b : Value} (he : enc rows[i] = [a, b]) : w.cell? ⟨g, i * 2, none⟩ = some a ∧ w.cell? ⟨g, i * 2 + 1, none⟩ = some b := by
  obtain ⟨cur, h1, h2, h3, h4⟩ := h
  obtain ⟨e1, e2⟩ := flat_get hk rows i hi a b he
  rw [← h4, List.getElem?_take_of_lt (by omega), Array.getElem?_toList] at e1 e2
  simp [World.cell?, h1, e1, e2]
theorem Has2.frozen (h : Has2 enc w g e cap rows) (o : Nat) : w.frozen? ⟨g, o, none⟩ = false := by
  obtain ⟨cur, h1, _⟩ := h
  simp [World.frozen?, h1]
theorem Has2.has (h : Has2 enc w g e cap rows) (o : Nat) (ho : o < cap * 2) : (w.cell? ⟨g, o, none⟩).isSome = true := by
  obtain ⟨cur, h1, h2, _⟩ := h
  simp [World.cell?, h1, h2, ho]
theorem Has2.set (hk : ∀ x, (enc x).length = 2) (h : Has2 enc w g e cap rows) (i : Nat) (hi : i < rows.length) (p : α) {a b : Value} (he : enc p = [a, b]) : Has2 enc ((w.setCell ⟨g, i * 2, none⟩ a).setCell ⟨g, i * 2 + 1, none⟩ b) g e cap (rows.set i p) := by
  obtain ⟨cur, h1, h2, h3, h4⟩ := h
  refine ⟨(cur.setIfInBounds (i * 2) a).setIfInBounds (i * 2 + 1) b, ?_, by simp [h2], by simpa using h3, ?_⟩
  · rw [setCell_eq_setRow w g _ cur e (0, 0) a h1, setCell_eq_setRow _ g _ _ e (0, 0) b (setRow_heap w g cur _ e (0, 0) h1)]
    exact setRow_heap _ g _ _ e (0, 0) (setRow_heap w g cur _ e (0, 0) h1)
  · rw [List.length_set, flat_set hk rows i p a b he, ← h4]
    apply List.ext_getElem?
    intro t
    simp only [List.getElem?_set, List.getElem?_take, Array.toList_setIfInBounds, List.length_set, List.length_take, Array.length_toList]
    repeat' split
    all_goals (first | rfl | omega)
theorem setCells_heap : ∀ (vs : List Value) (o : Nat) (w : World) (cur : Array Value), w.heap[g]? = some (.cells cur e (0, 0)) → ∃ cur', (w.setCells g o vs).heap[g]? = some (.cells cur' e (0, 0)) ∧ cur'.size = cur.size ∧ ∀ t, t < o → cur'[t]? = cur[t]?
  | [], _, _, cur, h => ⟨cur, h, rfl, fun _ _ => rfl⟩
  | v :: r, o, w, cur, h => by
    rw [World.setCells, setCell_eq_setRow w g o cur e (0, 0) v h]
    obtain ⟨cur', h1, h2, h3⟩ := setCells_heap r (o + 1) _ _ (setRow_heap w g cur (cur.setIfInBounds o v) e (0, 0) h)
    refine ⟨cur', h1, by simpa using h2, fun t ht => ?_⟩
    rw [h3 t (by omega), Array.getElem?_setIfInBounds_ne (by omega)]
theorem setCells_other : ∀ (vs : List Value) (o : Nat) (w : World) (k : Nat), k ≠ g → (w.setCells g o vs).heap[k]? = w.heap[k]?
  | [], _, _, _, _ => rfl
  | v :: r, o, w, k, h => by
    rw [World.setCells, setCells_other r _ _ k h]
    simp [World.setCell, Array.getElem?_modify, Ne.symm h]
theorem setCells_same : ∀ (vs : List Value) (o : Nat) (w : World), (w.setCells g o vs).os = w.os ∧ (w.setCells g o vs).tape = w.tape ∧ (w.setCells g o vs).output = w.output ∧ (w.setCells g o vs).heap.size = w.heap.size
  | [], _, _ => ⟨rfl, rfl, rfl, rfl⟩
  | v :: r, o, w => by
    obtain ⟨h1, h2, h3, h4⟩ := setCells_same r (o + 1) (w.setCell ⟨g, o, none⟩ v)
    rw [World.setCells]
    exact ⟨h1.trans rfl, h2.trans rfl, h3.trans rfl, h4.trans (by simp [World.setCell])⟩
theorem gb_setCells (vs : List Value) (o : Nat) (w : World) : w.grownBy (w.setCells g o vs) (some g) := by
  obtain ⟨h1, h2, h3, h4⟩ := setCells_same (g := g) vs o w
  exact ⟨h1, h2, h3, by omega, fun k _ hk => setCells_other vs o w k (fun e => hk (by rw [e]))⟩
theorem Has2.cut (hk : ∀ x, (enc x).length = 2) (h : Has2 enc w g e cap rows) (k : Nat) (vs : List Value) : Has2 enc (w.setCells g (k * 2) vs) g e cap (rows.take k) := by
  obtain ⟨cur, h1, h2, h3, h4⟩ := h.take hk k
  obtain ⟨cur', h5, h6, h7⟩ := setCells_heap vs (k * 2) w cur h1
  refine ⟨cur', h5, h6.trans h2, h3, ?_⟩
  rw [← h4]
  apply List.ext_getElem?
  intro t
  by_cases ht : t < (rows.take k).length * 2
  · rw [List.getElem?_take_of_lt ht, List.getElem?_take_of_lt ht, Array.getElem?_toList, Array.getElem?_toList, h7 t (by simp at ht; omega)]
  · rw [List.getElem?_take, List.getElem?_take, if_neg ht, if_neg ht]
/-- 'clear(s)' of elements of two cells -/
theorem run_clear2 {P : Program} (w : World) (t e : TypeId) (z a b : Value) (ht : P.underlying t = some (.slice e)) (hv : ∀ w, (zeroValue e).run P w = .ok z w) (hz : z.cells = #[a, b]) (ha : a.oneCell' = true) (hb : b.oneCell' = true) (g o n c : Nat) (hn : 0 < n)
    (hc : ∀ j, j < n * 2 → (w.cell? ⟨g, o + j, none⟩).isSome = true) (hf : ∀ j, j < n * 2 → w.frozen? ⟨g, o + j, none⟩ = false) :
    ∃ vs, ∀ ty, (Builtin.clear_ #[t] ty #[.slice (some ⟨g, o, none⟩) n c]).run P w = .ok (.tuple #[]) (w.setCells g o vs) := by
  have hl : (Builtin.zeroCells z.cells n).toList.length = n * 2 := by simp [Builtin.zeroCells, hz]
  refine ⟨(Builtin.zeroCells z.cells n).toList, fun ty => ?_⟩
  have hst := run_storeCells_cells (P := P) g o (Builtin.zeroCells z.cells n).toList 0 w (fun j hj => by simpa using hc j (by omega)) (fun j hj => by simpa using hf j (by omega)) (by
    intro v hv'
    simp only [Builtin.zeroCells, hz, Array.toList_map, List.mem_map] at hv'
    obtain ⟨i, _, rfl⟩ := hv'
    have : i % 2 = 0 ∨ i % 2 = 1 := by omega
    rcases this with h | h <;> simp [h, ha, hb])
  simp only [Nat.add_zero] at hst
  obtain ⟨m, rfl⟩ : ∃ m, n = m + 1 := ⟨n - 1, by omega⟩
  simp [Builtin.clear_, run_underlying ht, hv, hst]
end
end Go.Proofs.Ytjkhdldgmkkhjaa.M
