/- What the reference's Pairs and Same compute; what the law's ints computes. What the law's within and Pairs compute. -/
import Derived.Test.YtmkpfamngedcmaaPCanopyref2Pairs
import Derived.Test.YtmkpfamngedcmaaPCanopyref2Same
import Derived.Test.YtmkpfamngedcmaaSRefInts
import Derived.Test.YtmkpfamngedcmaaSBoth
import Derived.Test.YtmkpfamngedcmaaPCanopylaw2Pairs
set_option linter.unusedVariables false
set_option linter.unusedSimpArgs false
namespace Go.Proofs.Ytmkpfamngedcmaa.Pure
open Go.RowKit Go.Proofs.Ytmkpfamngedcmaa.P Go.Proofs.Ytmkpfamngedcmaa.M Go.Proofs.YtmkpfamngedcmaaW.PrintWords Go.Proofs.YtmkpfamngedcmaaW.PrintLast Go.Proofs.YtmkpfamngedcmaaW.PrintMore

theorem wrap_le {n : Int} (h0 : -9223372036854775808 ≤ n) (h1 : n < 9223372036854775808) : wrap64 n = n := by unfold wrap64; omega
theorem rdP (l : List TPair) (i : Nat) (h : i < l.length) : rd_T27 l (i : Int) = l[i] := by
  unfold rd_T27
  rw [Int.toNat_natCast, List.getD_eq_getElem?_getD, List.getElem?_eq_getElem h]
  rfl
theorem rdI (l : List Int) (i : Nat) (h : i < l.length) : rd l (i : Int) = l[i] := by
  unfold rd
  rw [Int.toNat_natCast, List.getD_eq_getElem?_getD, List.getElem?_eq_getElem h]
  rfl
section
variable {α : Type} {cmp : α → α → Int}
theorem insT_at (T : TotalCmp cmp) {out : List α} {x : α} {k : Nat} (hs : out.Pairwise (fun a b => cmp a b < 0)) (hk : k ≤ out.length) (h1 : ∀ j (h : j < out.length), k ≤ j → cmp x out[j] < 0) (h2 : ∀ h : 0 < k, cmp (out[k - 1]'(by omega)) x < 0) : out.take k ++ [x] ++ out.drop k = insC cmp out x := by
  refine T.unique ?_ (T.ins_sorted hs) (fun y => ?_)
  · rw [List.append_assoc, List.pairwise_append]
    refine ⟨hs.sublist (List.take_sublist _ _), ?_, ?_⟩
    · rw [List.singleton_append, List.pairwise_cons]
      refine ⟨fun y hy => ?_, hs.sublist (List.drop_sublist _ _)⟩
      obtain ⟨j, hj, rfl⟩ := List.mem_iff_getElem.1 hy
      rw [List.getElem_drop]
      exact h1 (k + j) (by rw [List.length_drop] at hj; omega) (by omega)
    · intro a ha b hb
      obtain ⟨j, hj, rfl⟩ := List.mem_iff_getElem.1 ha
      rw [List.length_take] at hj
      rw [List.getElem_take]
      have hx : cmp (out[j]'(by omega)) x < 0 := by
        have h3 := h2 (by omega)
        by_cases e : j = k - 1
        · subst e; exact h3
        · have := List.pairwise_iff_getElem.1 hs j (k - 1) (by omega) (by omega) (by omega)
          exact T.trans this h3
      rcases List.mem_append.1 hb with h | h
      · rw [List.mem_singleton.1 h]; exact hx
      · obtain ⟨q, hq, rfl⟩ := List.mem_iff_getElem.1 h
        rw [List.getElem_drop]
        exact T.trans hx (h1 (k + q) (by rw [List.length_drop] at hq; omega) (by omega))
  · rw [T.mem_ins]
    have e : y ∈ out ↔ y ∈ out.take k ∨ y ∈ out.drop k := by rw [← List.mem_append, List.take_append_drop]
    rw [e]
    simp only [List.mem_append, List.mem_singleton]
    constructor
    · rintro ((h | h) | h)
      · exact .inr (.inl h)
      · exact .inl h
      · exact .inr (.inr h)
    · rintro (h | h | h)
      · exact .inl (.inr h)
      · exact .inl (.inl h)
      · exact .inr h
theorem insT_there (T : TotalCmp cmp) {out : List α} {x : α} (hs : out.Pairwise (fun a b => cmp a b < 0)) (h : x ∈ out) : insC cmp out x = out := by
  refine T.unique (T.ins_sorted hs) hs (fun y => ?_)
  rw [T.mem_ins]
  constructor
  · rintro (e | e)
    · rw [e]; exact h
    · exact e
  · exact fun e => .inr e
end
theorem cmpPair_lt (x y : TPair) : cmpPair x y < 0 ↔ (x.f0 < y.f0 ∨ x.f0 = y.f0 ∧ x.f1 < y.f1) := by
  unfold cmpPair orInt cmpInt
  by_cases h1 : x.f0 < y.f0
  · simp [h1]
  · by_cases h2 : x.f0 = y.f0
    · by_cases h3 : x.f1 < y.f1
      · simp [h2, h3]
      · by_cases h4 : x.f1 > y.f1
        · simp [h2, h3, h4]
        · simp [h2, h3, h4]
    · have h5 : x.f0 > y.f0 := by omega
      simp [h1, h2, h5]
theorem less_eq (x y : TPair) : canopyref2_less.f x.f0 x.f1 y.f0 y.f1 = some (decide (cmpPair x y < 0)) := by
  unfold canopyref2_less.f
  by_cases h1 : x.f0 < y.f0
  · rw [if_pos h1, decide_eq_true ((cmpPair_lt x y).2 (.inl h1))]
  · rw [if_neg h1]
    by_cases h2 : x.f0 = y.f0
    · rw [if_pos h2]
      congr 1
      rw [decide_eq_decide, cmpPair_lt]
      constructor
      · exact fun h => .inr ⟨h2, h⟩
      · rintro (h | h)
        · exact absurd h h1
        · exact h.2
    · rw [if_neg h2, decide_eq_false (fun h => by rcases (cmpPair_lt x y).1 h with h | h <;> omega)]
theorem mid_len (out : List TPair) (j : Nat) (c : TPair) (hj : j ≤ out.length) : (out.take j ++ [c] ++ out.drop j).length = out.length + 1 := by
  simp only [List.length_append, List.length_take, List.length_drop, List.length_singleton]
  omega
theorem set_mid (out : List TPair) (j : Nat) (c x : TPair) (hj : j ≤ out.length) : (out.take j ++ [c] ++ out.drop j).set j x = out.take j ++ [x] ++ out.drop j := by
  have hl : (out.take j).length = j := by rw [List.length_take]; omega
  rw [List.append_assoc, List.set_append, if_neg (by omega), hl, Nat.sub_self]
  simp
theorem shift_mid (out : List TPair) (j : Nat) (hj : j < out.length) : out.take (j + 1) ++ [out[j]] ++ out.drop (j + 1) = out.take j ++ [out[j]] ++ out.drop j := by
  rw [List.take_add_one, List.getElem?_eq_getElem hj, List.drop_eq_getElem_cons hj]
  simp
theorem get_mid (out : List TPair) (j : Nat) (c : TPair) (hj : j < out.length) (h : j < (out.take (j + 1) ++ [c] ++ out.drop (j + 1)).length) : (out.take (j + 1) ++ [c] ++ out.drop (j + 1))[j] = out[j] := by
  have hl : j < (out.take (j + 1)).length := by rw [List.length_take]; omega
  rw [List.getElem_append_left (by rw [List.length_append]; omega), List.getElem_append_left hl, List.getElem_take]
section
variable {l : List TPair} {i : Nat} {r : List TPair}
theorem ev_l2 {kk : Nat} (hi : i < l.length) (hil : l.length ≤ 1000000000) (out : List TPair) (hlen : out.length ≤ 1000000000) (hk : kk ≤ out.length)
    (h : Ev (fun n => canopyref2_Pairs.l0 n l (out.take kk ++ [l[i]] ++ out.drop kk) (wrap64 ((i : Int) + 1))) r) :
    ∀ (d j : Nat), j = kk + d → j ≤ out.length → ∀ c, Ev (fun n => canopyref2_Pairs.l2 n l (out.take j ++ [c] ++ out.drop j) (i : Int) (kk : Int) (j : Int)) r
  | 0, j, hj, hjl, c => by
    obtain rfl : kk = j := by omega
    refine Ev.step (fun n => ?_) h
    have hm := mid_len out kk c hjl
    rw [canopyref2_Pairs.l2, if_neg (by omega), if_pos (by omega), if_pos (by omega), if_pos (by omega), if_pos (by rw [hm]; omega), rdP l i hi, Int.toNat_natCast, set_mid out kk c _ hjl]
  | d + 1, j + 1, hj, hjl, c => by
    have ih := ev_l2 hi hil out hlen hk h d j (by omega) (by omega) out[j]
    refine Ev.step (fun n => ?_) ih
    have hm := mid_len out (j + 1) c hjl
    have e : wrap64 (((j + 1 : Nat) : Int) - 1) = (j : Int) := by rw [wrap_le (by omega) (by omega)]; omega
    rw [canopyref2_Pairs.l2, if_pos (by omega), e, if_pos (by omega), if_pos (by rw [hm]; omega), if_pos (by omega), if_pos (by rw [hm]; omega), rdP _ j (by rw [hm]; omega), get_mid out j c (by omega) (by rw [hm]; omega), Int.toNat_natCast, set_mid out (j + 1) c _ hjl, shift_mid out j (by omega)]
  | d + 1, 0, hj, hjl, c => by omega
theorem ev_j3 {kk : Nat} (hi : i < l.length) (hil : l.length ≤ 1000000000) (out : List TPair) (hlen : out.length ≤ 1000000000) (hk : kk ≤ out.length)
    (h : Ev (fun n => canopyref2_Pairs.l0 n l (out.take kk ++ [l[i]] ++ out.drop kk) (wrap64 ((i : Int) + 1))) r) :
    Ev (fun n => canopyref2_Pairs.j3 n l out (i : Int) (kk : Int) true) r := by
  have h2 := ev_l2 hi hil out hlen hk h (out.length - kk) out.length (by omega) (Nat.le_refl _) ⟨0, 0⟩
  refine Ev.step (fun n => ?_) h2
  rw [canopyref2_Pairs.j3, if_pos rfl, if_pos (by omega), List.take_length, List.drop_length, List.append_nil, Option.bind_some, List.length_append, List.length_singleton, wrap_le (by omega) (by omega)]
  congr 1
  omega
theorem ev_l1 (hi : i < l.length) (hil : l.length ≤ 1000000000) (out : List TPair) (hlen : out.length ≤ 1000000000) (hs : out.Pairwise (fun a b => cmpPair a b < 0))
    (h : Ev (fun n => canopyref2_Pairs.l0 n l (insC cmpPair out l[i]) (wrap64 ((i : Int) + 1))) r) :
    ∀ (kk : Nat), kk ≤ out.length → (∀ j (h : j < out.length), kk ≤ j → cmpPair l[i] out[j] < 0) → Ev (fun n => canopyref2_Pairs.l1 n l out (i : Int) (kk : Int)) r
  | 0, hk, h1 => by
    rw [← insT_at totalPair hs hk h1 (fun h => by omega)] at h
    have h3 := ev_j3 hi hil out hlen hk h
    refine Ev.step (fun n => ?_) (Ev.step (g := fun n => canopyref2_Pairs.j2 n l out (i : Int) ((0 : Nat) : Int)) (fun n => ?_) h3)
    · rw [canopyref2_Pairs.l1, if_neg (by omega)]
    · rw [canopyref2_Pairs.j2, if_pos (by rfl)]
  | q + 1, hk, h1 => by
    have hq : q < out.length := by omega
    have e : wrap64 (((q + 1 : Nat) : Int) - 1) = (q : Int) := by rw [wrap_le (by omega) (by omega)]; omega
    have stp : ∀ n, canopyref2_Pairs.l1 (n + 1) l out (i : Int) ((q + 1 : Nat) : Int) = if decide (cmpPair l[i] out[q] < 0) = true then canopyref2_Pairs.l1 n l out (i : Int) (q : Int) else canopyref2_Pairs.j2 n l out (i : Int) ((q + 1 : Nat) : Int) := fun n => by
      rw [canopyref2_Pairs.l1, if_pos (by omega), if_pos (by omega), if_pos (by omega), e, if_pos (by omega), if_pos (by omega), rdP l i hi, rdP out q hq, less_eq, Option.bind_some]
    by_cases hlt : cmpPair l[i] out[q] < 0
    · refine Ev.step (fun n => ?_) (ev_l1 hi hil out hlen hs h q (by omega) (fun j hj hqj => by
        by_cases hjq : j = q
        · subst hjq; exact hlt
        · exact h1 j hj (by omega)))
      rw [stp, if_pos (decide_eq_true hlt)]
    · have j2s : ∀ n, canopyref2_Pairs.j2 (n + 1) l out (i : Int) ((q + 1 : Nat) : Int) = canopyref2_Pairs.j3 n l out (i : Int) ((q + 1 : Nat) : Int) (!(out[q].f0 == l[i].f0) || !(out[q].f1 == l[i].f1)) := fun n => by
        rw [canopyref2_Pairs.j2, if_neg (by omega), e, if_pos (by omega), if_pos (by omega), if_pos (by omega), if_pos (by omega), rdP l i hi, rdP out q hq]
      by_cases he : out[q] = l[i]
      · rw [insT_there totalPair hs (by rw [← he]; exact List.getElem_mem hq)] at h
        refine Ev.step (fun n => (stp n).trans ?_) (Ev.step (g := fun n => canopyref2_Pairs.j2 n l out (i : Int) ((q + 1 : Nat) : Int)) (fun n => (j2s n).trans ?_) (Ev.step (g := fun n => canopyref2_Pairs.j3 n l out (i : Int) ((q + 1 : Nat) : Int) false) (fun n => ?_) h))
        · rw [if_neg (by simpa using hlt)]
        · rw [he]; simp
        · rw [canopyref2_Pairs.j3, if_neg (by simp)]
      · have hne : (!(out[q].f0 == l[i].f0) || !(out[q].f1 == l[i].f1)) = true := by
          rw [Bool.or_eq_true, Bool.not_eq_true', Bool.not_eq_true', beq_eq_false_iff_ne, beq_eq_false_iff_ne]
          by_cases h4 : out[q].f0 = l[i].f0
          · refine .inr (fun h5 => he ?_)
            generalize out[q] = a at h4 h5
            generalize l[i] = b at h4 h5
            cases a; cases b
            simp only at h4 h5
            rw [h4, h5]
          · exact .inl h4
        have hgt : cmpPair out[q] l[i] < 0 := by
          have h5 := totalPair.anti out[q] l[i]
          have h6 : cmpPair out[q] l[i] ≠ 0 := fun h => he (totalPair.zero.1 h)
          omega
        rw [← insT_at totalPair hs hk h1 (fun _ => by simpa using hgt)] at h
        have h3 := ev_j3 hi hil out hlen hk h
        refine Ev.step (fun n => (stp n).trans ?_) (Ev.step (g := fun n => canopyref2_Pairs.j2 n l out (i : Int) ((q + 1 : Nat) : Int)) (fun n => (j2s n).trans ?_) h3)
        · rw [if_neg (by simpa using hlt)]
        · rw [hne]
end
theorem ev_l0 (l : List TPair) (hil : l.length ≤ 1000000000) : ∀ (d i : Nat), l.length - i = d → i ≤ l.length → Ev (fun n => canopyref2_Pairs.l0 n l (onceC cmpPair (l.take i)) (i : Int)) (onceC cmpPair l)
  | 0, i, hd, hi => by
    obtain rfl : i = l.length := by omega
    refine Ev.step (fun n => ?_) (Ev.now _)
    rw [canopyref2_Pairs.l0, if_neg (by omega), List.take_length]
  | d + 1, i, hd, hi => by
    have hlt : i < l.length := by omega
    have ih := ev_l0 l hil d (i + 1) (by omega) (by omega)
    have e : wrap64 ((i : Int) + 1) = ((i + 1 : Nat) : Int) := by rw [wrap_le (by omega) (by omega)]; omega
    have e2 : onceC cmpPair (l.take (i + 1)) = insC cmpPair (onceC cmpPair (l.take i)) l[i] := by
      rw [List.take_add_one, List.getElem?_eq_getElem hlt]
      exact once_snoc _ _ _
    have hol : (onceC cmpPair (l.take i)).length ≤ 1000000000 := by
      have h1 := once_len totalPair (l.take i)
      rw [List.length_take] at h1
      omega
    rw [e2] at ih
    refine Ev.step (fun n => ?_) (ev_l1 hlt hil _ hol (totalPair.once_sorted _) (by rw [e]; exact ih) _ (Nat.le_refl _) (fun j hj hqj => by omega))
    rw [canopyref2_Pairs.l0, if_pos (by omega)]
theorem ev_Pairs (l : List TPair) (hil : l.length ≤ 1000000000) : Ev (fun n => canopyref2_Pairs.f n l) (onceC cmpPair l) := ev_l0 l hil l.length 0 (by omega) (by omega)
theorem take_eq_iff {α : Type} [DecidableEq α] {a b : List α} {i : Nat} (ha : i < a.length) (hb : i < b.length) : a.take (i + 1) = b.take (i + 1) ↔ a.take i = b.take i ∧ a[i] = b[i] := by
  rw [List.take_add_one, List.take_add_one, List.getElem?_eq_getElem ha, List.getElem?_eq_getElem hb]
  constructor
  · intro h
    have := List.append_inj' h rfl
    simpa using this
  · rintro ⟨h1, h2⟩
    rw [h1, h2]
instance decP : DecidableEq TPair := fun a b => decidable_of_iff (a.f0 = b.f0 ∧ a.f1 = b.f1) ⟨fun h => by cases a; cases b; simp only at h; rw [h.1, h.2], fun h => by rw [h]; exact ⟨rfl, rfl⟩⟩
theorem same_loop (a b : List TPair) (hl : a.length = b.length) (ha : a.length ≤ 1000000000) : ∀ (d i : Nat), a.length - i = d → i ≤ a.length → a.take i = b.take i → Ev (fun n => canopyref2_Same.l0 n a b (i : Int)) (decide (a = b))
  | 0, i, hd, hi, ht => by
    obtain rfl : i = a.length := by omega
    have e : a = b := by rw [List.take_length, List.take_of_length_le (by omega)] at ht; exact ht
    refine Ev.step (fun n => ?_) (Ev.now _)
    rw [canopyref2_Same.l0, if_neg (by omega), decide_eq_true e]
  | d + 1, i, hd, hi, ht => by
    have h1 : i < a.length := by omega
    have h2 : i < b.length := by omega
    have e : wrap64 ((i : Int) + 1) = ((i + 1 : Nat) : Int) := by rw [wrap_le (by omega) (by omega)]; omega
    have stp : ∀ n, canopyref2_Same.l0 (n + 1) a b (i : Int) = if (!(a[i].f0 == b[i].f0) || !(a[i].f1 == b[i].f1)) = true then some false else canopyref2_Same.l0 n a b ((i + 1 : Nat) : Int) := fun n => by
      rw [canopyref2_Same.l0, if_pos (by omega), if_pos (by omega), if_pos (by omega), rdP a i h1, rdP b i h2, e]
    by_cases he : a[i] = b[i]
    · refine Ev.step (fun n => (stp n).trans ?_) (same_loop a b hl ha d (i + 1) (by omega) (by omega) ((take_eq_iff h1 h2).2 ⟨ht, he⟩))
      rw [he]
      simp
    · refine Ev.step (fun n => (stp n).trans ?_) (Ev.now _)
      have hne : (!(a[i].f0 == b[i].f0) || !(a[i].f1 == b[i].f1)) = true := by
        rw [Bool.or_eq_true, Bool.not_eq_true', Bool.not_eq_true', beq_eq_false_iff_ne, beq_eq_false_iff_ne]
        by_cases h4 : a[i].f0 = b[i].f0
        · refine .inr (fun h5 => he ?_)
          generalize a[i] = x at h4 h5
          generalize b[i] = y at h4 h5
          cases x; cases y
          simp only at h4 h5
          rw [h4, h5]
        · exact .inl h4
      rw [if_pos hne, decide_eq_false (fun e => he (by subst e; rfl))]
theorem ev_Same (a b : List TPair) (ha : a.length ≤ 1000000000) : Ev (fun n => canopyref2_Same.f n a b) (decide (a = b)) := by
  by_cases hl : a.length = b.length
  · refine Ev.congr (fun n => ?_) (same_loop a b hl ha a.length 0 (by omega) (by omega) rfl)
    unfold canopyref2_Same.f
    rw [if_pos (by omega)]
    rfl
  · refine Ev.congr (fun n => ?_) (Ev.now _)
    unfold canopyref2_Same.f
    rw [if_neg (by omega), decide_eq_false (fun e => hl (by rw [e]))]
end Go.Proofs.Ytmkpfamngedcmaa.Pure
set_option linter.unusedVariables false
set_option linter.unusedSimpArgs false
namespace Go.Proofs.Ytmkpfamngedcmaa.Pure
open Go.RowKit Go.Proofs.Ytmkpfamngedcmaa.P Go.Proofs.Ytmkpfamngedcmaa.M Go.Proofs.YtmkpfamngedcmaaW.PrintWords Go.Proofs.YtmkpfamngedcmaaW.PrintLast Go.Proofs.YtmkpfamngedcmaaW.PrintMore

theorem withinE {a n : Int} (h : 0 < n) (hn : n < 4611686018427387904) : canopylaw2_within.f a n = some (a % n) := by
  have go : (if n = 0 then (none : Option Int) else (if (Int.tmod a n) < 0 then (some (wrap64 ((Int.tmod a n) + n))) else (some (Int.tmod a n)))) = some (a % n) := by
    rw [if_neg (by omega)]
    have h1 := Int.emod_nonneg a (show n ≠ 0 by omega)
    have h2 := Int.emod_lt_of_pos a h
    by_cases ha : 0 ≤ a
    · rw [Int.tmod_eq_emod_of_nonneg ha, if_neg (by omega)]
    · have e : Int.tmod a n = a % n - ((if 0 ≤ a ∨ n ∣ a then 0 else Int.natAbs n : Nat) : Int) := Int.tmod_eq_emod
      by_cases hd : n ∣ a
      · rw [if_pos (.inr hd)] at e
        rw [e, if_neg (by omega)]
        congr 1
        omega
      · rw [if_neg (by simp [hd]; omega)] at e
        have h3 : a % n ≠ 0 := fun h => hd (Int.dvd_of_emod_eq_zero h)
        rw [e, if_pos (by omega), wrap_le (by omega) (by omega)]
        congr 1
        omega
  exact go
/-- pairs of numbers -/
def pairE (n : Int) : TPair := ⟨Int.tmod (n % 1073741824) 4, Int.tmod (wrap64 (Int.tdiv (n % 1073741824) 4)) 4⟩
def pairsE (ns : List Int) (most : Int) : List TPair := (ns.take most.toNat).map pairE
theorem pairsE_len (ns : List Int) (most : Int) : (pairsE ns most).length ≤ most.toNat := by simp [pairsE]; omega
theorem pairsE_loop (ns : List Int) (most : Int) (hm2 : most ≤ 1000000) : ∀ (d i : Nat), most - i ≤ d → i ≤ ns.length → (i : Int) ≤ most ∨ i = 0 → ∀ acc, acc = (ns.take i).map pairE → Ev (fun k => canopylaw2_Pairs.l0 k ns most acc (i : Int)) (pairsE ns most)
  | d, i, hd, hi, him, acc, ha => by
    have full : (most ≤ i ∨ ns.length ≤ i) → acc = pairsE ns most := by
      intro h
      rw [ha, pairsE]
      congr 1
      rcases h with h | h
      · rcases him with h2 | h2
        · rw [show most.toNat = i by omega]
        · rw [show most.toNat = i by omega]
      · rw [List.take_of_length_le (by omega)]
        rcases him with h2 | h2
        · rw [List.take_of_length_le (by omega)]
        · rw [show ns = [] from List.length_eq_zero_iff.1 (by omega)]; simp
    by_cases c1 : i < ns.length
    · by_cases c2 : (i : Int) < most
      · have e : wrap64 ((i : Int) + 1) = ((i + 1 : Nat) : Int) := by rw [wrap_le (by omega) (by omega)]; omega
        have hlen : acc.length ≤ 1000000 := by rw [ha]; simp; omega
        obtain ⟨d, rfl⟩ : ∃ e, d = e + 1 := ⟨d - 1, by omega⟩
        refine Ev.step (fun n => ?_) (pairsE_loop ns most hm2 d (i + 1) (by omega) (by omega) (.inl (by omega)) (acc ++ [pairE ns[i]]) (by rw [List.take_add_one, List.getElem?_eq_getElem c1, List.map_append, ha]; rfl))
        rw [canopylaw2_Pairs.l0, if_pos (by omega), if_pos c2, if_pos (by omega), withinE (by omega) (by omega), Option.bind_some, if_pos (by omega), e, rdI ns i c1]
        rfl
      · refine Ev.step (fun n => ?_) (Ev.now _)
        rw [canopylaw2_Pairs.l0, if_pos (by omega), if_neg c2, full (.inl (by omega))]
    · refine Ev.step (fun n => ?_) (Ev.now _)
      rw [canopylaw2_Pairs.l0, if_neg (by omega), full (.inr (by omega))]
theorem ev_pairsE (ns : List Int) (most : Int) (hm2 : most ≤ 1000000) : Ev (fun k => canopylaw2_Pairs.f k ns most) (pairsE ns most) :=
  pairsE_loop ns most hm2 most.toNat 0 (by omega) (by omega) (.inr rfl) _ (by simp)
theorem once_same {α : Type} {cmp : α → α → Int} (T : TotalCmp cmp) {a b : List α} (h : ∀ x, x ∈ a ↔ x ∈ b) : onceC cmp a = onceC cmp b := T.unique (T.once_sorted a) (T.once_sorted b) (fun x => by rw [T.mem_once, T.mem_once]; exact h x)
theorem once_turn {α : Type} {cmp : α → α → Int} (T : TotalCmp cmp) (a : List α) (k : Nat) : onceC cmp (a.drop k ++ a.take k) = onceC cmp a := once_same T (fun x => by
  rw [List.mem_append, Or.comm, ← List.mem_append, List.take_append_drop])
theorem onceI_le (l : List Int) : (onceC cmpInt l).length ≤ l.length := by
  have hn : (onceC cmpInt l).Nodup := List.Pairwise.imp (fun {a b} hab e => by subst e; have := totalInt.self a; omega) (totalInt.once_sorted l)
  exact List.Nodup.length_le_of_subset hn (fun x hx => totalInt.mem_once.1 hx)
end Go.Proofs.Ytmkpfamngedcmaa.Pure
