/- SetsHeld's plain law: a row has just those that were handed in. -/
import Derived.Test.YtmkpfamngedcmaaPCanopylaw2SetsHeld
set_option linter.unusedVariables false
set_option linter.unusedSimpArgs false
namespace Go.Proofs.Ytmkpfamngedcmaa.Pure
open Go.RowKit Go.Proofs.Ytmkpfamngedcmaa.P Go.Proofs.Ytmkpfamngedcmaa.M Go.Proofs.YtmkpfamngedcmaaW.PrintWords Go.Proofs.YtmkpfamngedcmaaW.PrintLast Go.Proofs.YtmkpfamngedcmaaW.PrintMore

theorem wrap_id {n : Int} (h0 : -9223372036854775808 ≤ n) (h1 : n < 9223372036854775808) : wrap64 n = n := by unfold wrap64; omega
theorem within_go {a n : Int} (h : 0 < n) (hn : n < 4611686018427387904) : (if n = 0 then (none : Option Int) else (if (Int.tmod a n) < 0 then (some (wrap64 ((Int.tmod a n) + n))) else (some (Int.tmod a n)))) = some (a % n) := by
  rw [if_neg (by omega)]
  have h1 := Int.emod_nonneg a (show n ≠ 0 by omega)
  have h2 := Int.emod_lt_of_pos a h
  by_cases ha : 0 ≤ a
  · rw [Int.tmod_eq_emod_of_nonneg ha, if_neg (by omega)]
  · have e : Int.tmod a n = a % n - ((if 0 ≤ a ∨ n ∣ a then 0 else Int.natAbs n : Nat) : Int) := Int.tmod_eq_emod
    by_cases hd : n ∣ a
    · rw [if_pos (.inr hd)] at e
      rw [e, if_neg (by omega)]
      congr 1
      omega
    · rw [if_neg (by simp [hd]; omega)] at e
      have h3 : a % n ≠ 0 := fun h => hd (Int.dvd_of_emod_eq_zero h)
      rw [e, if_pos (by omega), wrap_id (by omega) (by omega)]
      congr 1
      omega
theorem within_eq {a n : Int} (h : 0 < n) (hn : n < 4611686018427387904) : canopylaw2_within.f a n = some (a % n) := within_go h hn
theorem take_last (l : List Int) (i : Int) (h0 : 0 ≤ i) (h1 : i < l.length) : l.take (i + 1).toNat = l.take i.toNat ++ [rd l i] := by
  have e : (i + 1).toNat = i.toNat + 1 := by omega
  have hi : i.toNat < l.length := by omega
  rw [e, List.take_add_one, List.getElem?_eq_getElem hi]
  simp [rd, List.getD_eq_getElem?_getD, List.getElem?_eq_getElem hi]
theorem take_lastP (l : List TPair) (i : Int) (h0 : 0 ≤ i) (h1 : i < l.length) : l.take (i + 1).toNat = l.take i.toNat ++ [rd_T27 l i] := by
  have e : (i + 1).toNat = i.toNat + 1 := by omega
  have hi : i.toNat < l.length := by omega
  rw [e, List.take_add_one, List.getElem?_eq_getElem hi]
  simp [rd_T27, List.getD_eq_getElem?_getD, List.getElem?_eq_getElem hi]
/-- pairs of numbers -/
def pairN (n : Int) : TPair := ⟨Int.tmod (n % 1073741824) 4, Int.tmod (wrap64 (Int.tdiv (n % 1073741824) 4)) 4⟩
def pairsN (ns : List Int) (most : Int) : List TPair := (ns.take most.toNat).map pairN
theorem pairs_loop (ns : List Int) (most : Int) (hm : 0 ≤ most) (hm2 : most ≤ 1000) : ∀ (d : Nat) (i : Int), 0 ≤ i → i ≤ most → i ≤ ns.length → most - i = d → ∀ acc, acc = (ns.take i.toNat).map pairN → ∀ k, d < k →
    canopylaw2_Pairs.l0 k ns most acc i = some (pairsN ns most)
  | d, i, h0, h1, h2, hd, acc, ha, k + 1, hk => by
    unfold canopylaw2_Pairs.l0
    have full : ∀ (h : most ≤ i ∨ (ns.length : Int) ≤ i), acc = pairsN ns most := by
      intro h
      rw [ha, pairsN]
      congr 1
      rcases h with h | h
      · rw [show i = most by omega]
      · rw [List.take_of_length_le (by omega), List.take_of_length_le (by omega)]
    by_cases c1 : i < (ns.length : Int)
    · rw [if_pos c1]
      by_cases c2 : i < most
      · rw [if_pos c2, if_pos h0, within_eq (by omega) (by omega)]
        have hlen : acc.length ≤ 1000 := by rw [ha]; simp; omega
        simp only [Option.bind_some]
        rw [if_pos (by omega), wrap_id (n := i + 1) (by omega) (by omega)]
        obtain ⟨d, rfl⟩ : ∃ e, d = e + 1 := ⟨d - 1, by omega⟩
        exact pairs_loop ns most hm hm2 d (i + 1) (by omega) (by omega) (by omega) (by omega) _ (by rw [take_last ns i h0 c1, List.map_append, ha]; rfl) k (by omega)
      · rw [if_neg c2, full (.inl (by omega))]
    · rw [if_neg c1, full (.inr (by omega))]
theorem pairs_eq (ns : List Int) (most : Int) (hm : 0 ≤ most) (hm2 : most ≤ 1000) (k : Nat) (hk : 1001 < k) : canopylaw2_Pairs.f k ns most = some (pairsN ns most) :=
  pairs_loop ns most hm hm2 most.toNat 0 (by omega) hm (by omega) (by omega) _ (by simp) k (by omega)
theorem pairsN_len (ns : List Int) (most : Int) : (pairsN ns most).length ≤ most.toNat := by simp [pairsN]; omega
theorem onceI_len (l : List Int) : (onceC cmpInt l).length ≤ l.length := by
  have hn : (onceC cmpInt l).Nodup := List.Pairwise.imp (fun {a b} hab e => by subst e; have := totalInt.self a; omega) (totalInt.once_sorted l)
  exact List.Nodup.length_le_of_subset hn (fun x hx => totalInt.mem_once.1 hx)
theorem any_take (l : List Int) (x : Int) (i : Int) (h0 : 0 ≤ i) (h1 : i < l.length) : (l.take (i + 1).toNat).any (· == x) = ((l.take i.toNat).any (· == x) || rd l i == x) := by rw [take_last l i h0 h1, List.any_append]; simp
theorem any_takeP (l : List TPair) (a b : Int) (i : Int) (h0 : 0 ≤ i) (h1 : i < l.length) : (l.take (i + 1).toNat).any (fun p => p.f0 == a && p.f1 == b) = ((l.take i.toNat).any (fun p => p.f0 == a && p.f1 == b) || ((rd_T27 l i).f0 == a && (rd_T27 l i).f1 == b)) := by rw [take_lastP l i h0 h1, List.any_append]; simp

section
variable {x0 x1 : List Int} {x2 : Int} {K : Nat}
theorem h_loop3 {in1 has : Bool} {li : List Int} {p : List TPair} {a b : Int} {is : Bool} (hp : p.length ≤ 1000) (h1 : in1 = has) (h2 : is = p.any (fun p => p.f0 == a && p.f1 == b)) (h3 : li.length ≤ x1.length) : ∀ (d : Nat) (i : Int), 0 ≤ i → i ≤ (onceC cmpPair p).length → (onceC cmpPair p).length - i = d → ∀ was, was = ((onceC cmpPair p).take i.toNat).any (fun p => p.f0 == a && p.f1 == b) → ∀ k, d < k →
    canopylaw2_SetsHeld.l3 k x1 in1 has li p is was (onceC cmpPair p) i a b = some true
  | d, i, h0, hi, hd, was, hw, k + 1, hk => by
    have hlp := once_len totalPair p
    unfold canopylaw2_SetsHeld.l3
    by_cases c1 : i < ((onceC cmpPair p).length : Int)
    · obtain ⟨d, rfl⟩ : ∃ e, d = e + 1 := ⟨d - 1, by omega⟩
      rw [if_pos c1, wrap_id (n := i + 1) (by omega) (by omega)]
      have hn := any_takeP (onceC cmpPair p) a b i h0 c1
      by_cases c2 : was = true
      · rw [if_pos c2]
        exact h_loop3 hp h1 h2 h3 d (i + 1) (by omega) (by omega) (by omega) true (by rw [hn, ← hw, c2]; rfl) k (by omega)
      · rw [if_neg c2, if_pos h0]
        exact h_loop3 hp h1 h2 h3 d (i + 1) (by omega) (by omega) (by omega) _ (by rw [hn, ← hw, show was = false by simpa using c2]; rfl) k (by omega)
    · rw [if_neg c1]
      rw [List.take_of_length_le (by omega)] at hw
      have e : is = was := by
        rw [h2, hw, Bool.eq_iff_iff, List.any_eq_true, List.any_eq_true]
        constructor
        · rintro ⟨y, hy, h⟩; exact ⟨y, totalPair.mem_once.2 hy, h⟩
        · rintro ⟨y, hy, h⟩; exact ⟨y, totalPair.mem_once.1 hy, h⟩
      rw [if_pos (by rw [h1]; simp), if_pos (by rw [e]; simp), if_pos (by omega)]
      congr 1
      simp
      omega
theorem h_loop2 {in1 has : Bool} {li : List Int} {p : List TPair} {a b : Int} (hp : p.length ≤ 1000) (h1 : in1 = has) (h3 : li.length ≤ x1.length) : ∀ (d : Nat) (i : Int), 0 ≤ i → i ≤ p.length → p.length - i = d → ∀ is, is = (p.take i.toNat).any (fun p => p.f0 == a && p.f1 == b) → ∀ k, d + 1002 < k →
    canopylaw2_SetsHeld.l2 k x1 in1 has li p is false i a b = some true
  | d, i, h0, hi, hd, is, hw, k + 1, hk => by
    unfold canopylaw2_SetsHeld.l2
    by_cases c1 : i < (p.length : Int)
    · obtain ⟨d, rfl⟩ : ∃ e, d = e + 1 := ⟨d - 1, by omega⟩
      rw [if_pos c1, wrap_id (n := i + 1) (by omega) (by omega)]
      have hn := any_takeP p a b i h0 c1
      by_cases c2 : is = true
      · rw [if_pos c2]
        exact h_loop2 hp h1 h3 d (i + 1) (by omega) (by omega) (by omega) true (by rw [hn, ← hw, c2]; rfl) k (by omega)
      · rw [if_neg c2, if_pos h0]
        exact h_loop2 hp h1 h3 d (i + 1) (by omega) (by omega) (by omega) _ (by rw [hn, ← hw, show is = false by simpa using c2]; rfl) k (by omega)
    · rw [if_neg c1, show sets_Pairs.f p = some (onceC cmpPair p) by unfold sets_Pairs.f; rw [if_pos (by omega)]]
      simp only [Option.bind_some]
      rw [List.take_of_length_le (by omega)] at hw
      have hlp := once_len totalPair p
      exact h_loop3 hp h1 hw h3 (onceC cmpPair p).length 0 (by omega) (by omega) (by omega) false (by simp) k (by omega)
theorem h_loop1 {in1 : Bool} (hx : x1.length ≤ 60) (h1 : in1 = x1.any (· == x2)) : ∀ (d : Nat) (i : Int), 0 ≤ i → i ≤ (onceC cmpInt x1).length → (onceC cmpInt x1).length - i = d → ∀ has, has = ((onceC cmpInt x1).take i.toNat).any (· == x2) → ∀ k, d + 4000 < k →
    canopylaw2_SetsHeld.l1 k x0 x1 x2 in1 has (onceC cmpInt x1) i = some true
  | d, i, h0, hi, hd, has, hw, k + 1, hk => by
    have hlp := onceI_len x1
    unfold canopylaw2_SetsHeld.l1
    by_cases c1 : i < ((onceC cmpInt x1).length : Int)
    · obtain ⟨d, rfl⟩ : ∃ e, d = e + 1 := ⟨d - 1, by omega⟩
      rw [if_pos c1, wrap_id (n := i + 1) (by omega) (by omega)]
      have hn := any_take (onceC cmpInt x1) x2 i h0 c1
      by_cases c2 : has = true
      · rw [if_pos c2]
        exact h_loop1 hx h1 d (i + 1) (by omega) (by omega) (by omega) true (by rw [hn, ← hw, c2]; rfl) k (by omega)
      · rw [if_neg c2, if_pos h0]
        exact h_loop1 hx h1 d (i + 1) (by omega) (by omega) (by omega) _ (by rw [hn, ← hw, show has = false by simpa using c2]; rfl) k (by omega)
    · rw [if_neg c1]
      rw [List.take_of_length_le (by omega)] at hw
      have e : in1 = has := by
        rw [h1, hw, Bool.eq_iff_iff, List.any_eq_true, List.any_eq_true]
        constructor
        · rintro ⟨y, hy, h⟩; exact ⟨y, totalInt.mem_once.2 hy, h⟩
        · rintro ⟨y, hy, h⟩; exact ⟨y, totalInt.mem_once.1 hy, h⟩
      rw [pairs_eq x0 20 (by omega) (by omega) k (by omega), within_eq (by omega) (by omega), within_eq (by omega) (by omega)]
      simp only [Option.bind_some]
      have hpl := pairsN_len x0 20
      exact h_loop2 (by omega) e hlp (pairsN x0 20).length 0 (by omega) (by omega) (by omega) false (by simp) k (by omega)
theorem h_loop0 (hx : x1.length ≤ 60) : ∀ (d : Nat) (i : Int), 0 ≤ i → i ≤ x1.length → x1.length - i = d → ∀ in1, in1 = (x1.take i.toNat).any (· == x2) → ∀ k, d + 5000 < k →
    canopylaw2_SetsHeld.l0 k x0 x1 x2 in1 i = some true
  | d, i, h0, hi, hd, in1, hw, k + 1, hk => by
    unfold canopylaw2_SetsHeld.l0
    by_cases c1 : i < (x1.length : Int)
    · obtain ⟨d, rfl⟩ : ∃ e, d = e + 1 := ⟨d - 1, by omega⟩
      rw [if_pos c1, wrap_id (n := i + 1) (by omega) (by omega)]
      have hn := any_take x1 x2 i h0 c1
      by_cases c2 : in1 = true
      · rw [if_pos c2]
        exact h_loop0 hx d (i + 1) (by omega) (by omega) (by omega) true (by rw [hn, ← hw, c2]; rfl) k (by omega)
      · rw [if_neg c2, if_pos h0]
        exact h_loop0 hx d (i + 1) (by omega) (by omega) (by omega) _ (by rw [hn, ← hw, show in1 = false by simpa using c2]; rfl) k (by omega)
    · rw [if_neg c1, show sets_Ints.f x1 = some (onceC cmpInt x1) by unfold sets_Ints.f; rw [if_pos (by omega)]]
      simp only [Option.bind_some]
      rw [List.take_of_length_le (by omega)] at hw
      have hlp := onceI_len x1
      exact h_loop1 hx hw (onceC cmpInt x1).length 0 (by omega) (by omega) (by omega) false (by simp) k (by omega)
end
/-- YOURS -/
theorem SetsHeld : canopylaw2_SetsHeld.Pure := by
  intro l0 l1 a2 m0 y0 f0 m1 y1 f1 w2
  obtain ⟨K, hK⟩ : ∃ K : Nat, 6000 ≤ K := ⟨_, Nat.le_refl _⟩
  refine ⟨K, ?_⟩
  unfold canopylaw2_SetsHeld.f
  rw [show canopylaw2_known.f = some true from rfl]
  simp only [Option.bind_some, if_true]
  by_cases c : (l1.length : Int) > 60
  · rw [if_pos c]
  · rw [if_neg c]
    exact h_loop0 (by omega) l1.length 0 (by omega) (by omega) (by omega) false (by simp) K (by omega)
end Go.Proofs.Ytmkpfamngedcmaa.Pure
