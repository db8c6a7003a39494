/- What the law's within and Pairs compute. -/
import Derived.Test.YtmkpfamngedcmaaPCanopylaw2Pairs
import Derived.Test.YtmkpfamngedcmaaURefPairs
set_option linter.unusedVariables false
set_option linter.unusedSimpArgs false
namespace Go.Proofs.Ytmkpfamngedcmaa.Pure
open Go.RowKit Go.Proofs.Ytmkpfamngedcmaa.P Go.Proofs.Ytmkpfamngedcmaa.M Go.Proofs.YtmkpfamngedcmaaW.PrintWords Go.Proofs.YtmkpfamngedcmaaW.PrintLast Go.Proofs.YtmkpfamngedcmaaW.PrintMore

theorem withinE {a n : Int} (h : 0 < n) (hn : n < 4611686018427387904) : canopylaw2_within.f a n = some (a % n) := by
  have go : (if n = 0 then (none : Option Int) else (if (Int.tmod a n) < 0 then (some (wrap64 ((Int.tmod a n) + n))) else (some (Int.tmod a n)))) = some (a % n) := by
    rw [if_neg (by omega)]
    have h1 := Int.emod_nonneg a (show n ≠ 0 by omega)
    have h2 := Int.emod_lt_of_pos a h
    by_cases ha : 0 ≤ a
    · rw [Int.tmod_eq_emod_of_nonneg ha, if_neg (by omega)]
    · have e : Int.tmod a n = a % n - ((if 0 ≤ a ∨ n ∣ a then 0 else Int.natAbs n : Nat) : Int) := Int.tmod_eq_emod
      by_cases hd : n ∣ a
      · rw [if_pos (.inr hd)] at e
        rw [e, if_neg (by omega)]
        congr 1
        omega
      · rw [if_neg (by simp [hd]; omega)] at e
        have h3 : a % n ≠ 0 := fun h => hd (Int.dvd_of_emod_eq_zero h)
        rw [e, if_pos (by omega), wrap_le (by omega) (by omega)]
        congr 1
        omega
  exact go
/-- pairs of numbers -/
def pairE (n : Int) : TPair := ⟨Int.tmod (n % 1073741824) 4, Int.tmod (wrap64 (Int.tdiv (n % 1073741824) 4)) 4⟩
def pairsE (ns : List Int) (most : Int) : List TPair := (ns.take most.toNat).map pairE
theorem pairsE_len (ns : List Int) (most : Int) : (pairsE ns most).length ≤ most.toNat := by simp [pairsE]; omega
theorem pairsE_loop (ns : List Int) (most : Int) (hm2 : most ≤ 1000000) : ∀ (d i : Nat), most - i ≤ d → i ≤ ns.length → (i : Int) ≤ most ∨ i = 0 → ∀ acc, acc = (ns.take i).map pairE → Ev (fun k => canopylaw2_Pairs.l0 k ns most acc (i : Int)) (pairsE ns most)
  | d, i, hd, hi, him, acc, ha => by
    have full : (most ≤ i ∨ ns.length ≤ i) → acc = pairsE ns most := by
      intro h
      rw [ha, pairsE]
      congr 1
      rcases h with h | h
      · rcases him with h2 | h2
        · rw [show most.toNat = i by omega]
        · rw [show most.toNat = i by omega]
      · rw [List.take_of_length_le (by omega)]
        rcases him with h2 | h2
        · rw [List.take_of_length_le (by omega)]
        · rw [show ns = [] from List.length_eq_zero_iff.1 (by omega)]; simp
    by_cases c1 : i < ns.length
    · by_cases c2 : (i : Int) < most
      · have e : wrap64 ((i : Int) + 1) = ((i + 1 : Nat) : Int) := by rw [wrap_le (by omega) (by omega)]; omega
        have hlen : acc.length ≤ 1000000 := by rw [ha]; simp; omega
        obtain ⟨d, rfl⟩ : ∃ e, d = e + 1 := ⟨d - 1, by omega⟩
        refine Ev.step (fun n => ?_) (pairsE_loop ns most hm2 d (i + 1) (by omega) (by omega) (.inl (by omega)) (acc ++ [pairE ns[i]]) (by rw [List.take_add_one, List.getElem?_eq_getElem c1, List.map_append, ha]; rfl))
        rw [canopylaw2_Pairs.l0, if_pos (by omega), if_pos c2, if_pos (by omega), withinE (by omega) (by omega), Option.bind_some, if_pos (by omega), e, rdI ns i c1]
        rfl
      · refine Ev.step (fun n => ?_) (Ev.now _)
        rw [canopylaw2_Pairs.l0, if_pos (by omega), if_neg c2, full (.inl (by omega))]
    · refine Ev.step (fun n => ?_) (Ev.now _)
      rw [canopylaw2_Pairs.l0, if_neg (by omega), full (.inr (by omega))]
theorem ev_pairsE (ns : List Int) (most : Int) (hm2 : most ≤ 1000000) : Ev (fun k => canopylaw2_Pairs.f k ns most) (pairsE ns most) :=
  pairsE_loop ns most hm2 most.toNat 0 (by omega) (by omega) (.inr rfl) _ (by simp)
theorem once_same {α : Type} {cmp : α → α → Int} (T : TotalCmp cmp) {a b : List α} (h : ∀ x, x ∈ a ↔ x ∈ b) : onceC cmp a = onceC cmp b := T.unique (T.once_sorted a) (T.once_sorted b) (fun x => by rw [T.mem_once, T.mem_once]; exact h x)
theorem once_turn {α : Type} {cmp : α → α → Int} (T : TotalCmp cmp) (a : List α) (k : Nat) : onceC cmp (a.drop k ++ a.take k) = onceC cmp a := once_same T (fun x => by
  rw [List.mem_append, Or.comm, ← List.mem_append, List.take_append_drop])
theorem onceI_le (l : List Int) : (onceC cmpInt l).length ≤ l.length := by
  have hn : (onceC cmpInt l).Nodup := List.Pairwise.imp (fun {a b} hab e => by subst e; have := totalInt.self a; omega) (totalInt.once_sorted l)
  exact List.Nodup.length_le_of_subset hn (fun x hx => totalInt.mem_once.1 hx)
end Go.Proofs.Ytmkpfamngedcmaa.Pure
