/- SetsRows' plain law: numbers and pairs are in order, each once, in whatever order they come. -/
import Derived.Test.YtmkpfamngedcmaaPCanopylaw2SetsRows
import Derived.Test.YtmkpfamngedcmaaUPairsN
set_option linter.unusedVariables false
set_option linter.unusedSimpArgs false
namespace Go.Proofs.Ytmkpfamngedcmaa.Pure
open Go.RowKit Go.Proofs.Ytmkpfamngedcmaa.P Go.Proofs.Ytmkpfamngedcmaa.M Go.Proofs.YtmkpfamngedcmaaW.PrintWords Go.Proofs.YtmkpfamngedcmaaW.PrintLast Go.Proofs.YtmkpfamngedcmaaW.PrintMore

theorem ints_loop (a b : List Int) (hl : a.length = b.length) (ha : a.length ≤ 1000000000) : ∀ (d i : Nat), a.length - i = d → i ≤ a.length → a.take i = b.take i → Ev (fun n => canopylaw2_ints.l0 n a b (i : Int)) (decide (a = b))
  | 0, i, hd, hi, ht => by
    obtain rfl : i = a.length := by omega
    have e : a = b := by rw [List.take_length, List.take_of_length_le (by omega)] at ht; exact ht
    refine Ev.step (fun n => ?_) (Ev.now _)
    rw [canopylaw2_ints.l0, if_neg (by omega), decide_eq_true e]
  | d + 1, i, hd, hi, ht => by
    have h1 : i < a.length := by omega
    have h2 : i < b.length := by omega
    have e : wrap64 ((i : Int) + 1) = ((i + 1 : Nat) : Int) := by rw [wrap_le (by omega) (by omega)]; omega
    have stp : ∀ n, canopylaw2_ints.l0 (n + 1) a b (i : Int) = if a[i] = b[i] then canopylaw2_ints.l0 n a b ((i + 1 : Nat) : Int) else some false := fun n => by
      rw [canopylaw2_ints.l0, if_pos (by omega), if_pos (by omega), if_pos (by omega), rdI a i h1, rdI b i h2, e]
    by_cases he : a[i] = b[i]
    · refine Ev.step (fun n => (stp n).trans (if_pos he)) (ints_loop a b hl ha d (i + 1) (by omega) (by omega) ((take_eq_iff h1 h2).2 ⟨ht, he⟩))
    · refine Ev.step (fun n => (stp n).trans ((if_neg he).trans ?_)) (Ev.now _)
      rw [decide_eq_false (fun e => he (by subst e; rfl))]
theorem ev_ints (a b : List Int) (ha : a.length ≤ 1000000000) : Ev (fun n => canopylaw2_ints.f n a b) (decide (a = b)) := by
  by_cases hl : a.length = b.length
  · refine Ev.congr (fun n => ?_) (ints_loop a b hl ha a.length 0 (by omega) (by omega) rfl)
    unfold canopylaw2_ints.f
    rw [if_pos (by omega)]
    rfl
  · refine Ev.congr (fun n => ?_) (Ev.now _)
    unfold canopylaw2_ints.f
    rw [if_neg (by omega), decide_eq_false (fun e => hl (by rw [e]))]
theorem sInts (l : List Int) (h : l.length ≤ 1000000000) : sets_Ints.f l = some (onceC cmpInt l) := if_pos h
theorem rInts (l : List Int) (h : l.length ≤ 1000000000) : canopyref2_Ints.f l = some (onceC cmpInt l) := if_pos h
theorem sPairs (l : List TPair) (h : l.length ≤ 1000000000) : sets_Pairs.f l = some (onceC cmpPair l) := if_pos h
section
variable {x1 : List Int} {x2 : Int} {x7 : List TPair}
theorem r_l1 (h1 : x1.length ≤ 60) (h7 : x7.length ≤ 100) : ∀ (d i : Nat), (onceC cmpInt x1).length - i = d → 1 ≤ i → Ev (fun k => canopylaw2_SetsRows.l1 k x1 x7 (onceC cmpInt x1) (onceC cmpPair x7) (onceC cmpInt x1) (onceC cmpPair x7) (i : Int)) true
  | d, i, hd, hi => by
    have hlen := onceI_le x1
    have hlp := once_len totalPair x7
    by_cases c1 : i < (onceC cmpInt x1).length
    · obtain ⟨d, rfl⟩ : ∃ e, d = e + 1 := ⟨d - 1, by omega⟩
      obtain ⟨i, rfl⟩ : ∃ j, i = j + 1 := ⟨i - 1, by omega⟩
      refine Ev.step (fun n => ?_) (r_l1 h1 h7 d (i + 1 + 1) (by omega) (by omega))
      have e : wrap64 (((i + 1 : Nat) : Int) + 1) = ((i + 1 + 1 : Nat) : Int) := by rw [wrap_le (by omega) (by omega)]; omega
      have e2 : wrap64 (((i + 1 : Nat) : Int) - 1) = (i : Int) := by rw [wrap_le (by omega) (by omega)]; omega
      have hs := cmpInt_lt.1 (List.pairwise_iff_getElem.1 (totalInt.once_sorted x1) i (i + 1) (by omega) c1 (by omega))
      rw [canopylaw2_SetsRows.l1, if_pos (by omega), e2, if_pos (by omega), if_pos (by omega), if_pos (by omega), rdI _ i (by omega), rdI _ (i + 1) c1, if_neg (by omega), e]
    · refine Ev.step (fun n => ?_) (Ev.bind (Ev.congr (fun n => rfl) (ev_ints (onceC cmpInt x1) (onceC cmpInt x1) (by omega))) (f := fun n t183 => (if t183 = true then ((canopylaw2_ints.f n (onceC cmpInt x1) (onceC cmpInt x1)).bind fun t184 => (if t184 = true then ((canopyref2_Pairs.f n x7).bind fun t185 => ((canopyref2_Same.f n (onceC cmpPair x7) t185).bind fun t188 => (if t188 = true then ((canopyref2_Same.f n (onceC cmpPair x7) (onceC cmpPair x7)).bind fun t189 => (some t189)) else (some false)))) else (some false))) else (some false))) ?_)
      · rw [canopylaw2_SetsRows.l1, if_neg (by omega), rInts _ (by omega), Option.bind_some]
      · rw [decide_eq_true rfl]
        refine Ev.congr (fun n => if_pos rfl) ?_
        refine Ev.bind (ev_ints (onceC cmpInt x1) (onceC cmpInt x1) (by omega)) ?_
        rw [decide_eq_true rfl]
        refine Ev.congr (fun n => if_pos rfl) ?_
        refine Ev.bind (ev_Pairs x7 (by omega)) ?_
        refine Ev.bind (ev_Same (onceC cmpPair x7) (onceC cmpPair x7) (by omega)) ?_
        rw [decide_eq_true rfl]
        refine Ev.congr (fun n => if_pos rfl) ?_
        refine Ev.bind (ev_Same (onceC cmpPair x7) (onceC cmpPair x7) (by omega)) ?_
        rw [decide_eq_true rfl]
        exact Ev.now _
theorem r_j2 (h1 : x1.length ≤ 60) (h7 : x7.length ≤ 100) : Ev (fun k => canopylaw2_SetsRows.j2 k x1 x2 x7) true := by
  refine Ev.step (fun n => ?_) (r_l1 h1 h7 ((onceC cmpInt x1).length - 1) 1 rfl (Nat.le_refl _))
  have e1 : wrap64 ((x1.length : Int) + 1) = (x1.length : Int) + 1 := wrap_le (by omega) (by omega)
  have e7 : wrap64 ((x7.length : Int) + 1) = (x7.length : Int) + 1 := wrap_le (by omega) (by omega)
  have a0 := Int.emod_nonneg x2 (show ((x1.length : Int) + 1) ≠ 0 by omega)
  have a1 := Int.emod_lt_of_pos x2 (show 0 < ((x1.length : Int) + 1) by omega)
  have b0 := Int.emod_nonneg x2 (show ((x7.length : Int) + 1) ≠ 0 by omega)
  have b1 := Int.emod_lt_of_pos x2 (show 0 < ((x7.length : Int) + 1) by omega)
  rw [canopylaw2_SetsRows.j2, e1, e7, withinE (by omega) (by omega), Option.bind_some, withinE (by omega) (by omega), Option.bind_some, sInts _ (by omega), Option.bind_some, sPairs _ (by omega), Option.bind_some, Option.bind_some]
  generalize x2 % ((x1.length : Int) + 1) = p at a0 a1
  generalize x2 % ((x7.length : Int) + 1) = q at b0 b1
  rw [if_pos a0, if_pos (by omega), List.nil_append, if_pos (by simp; omega), Option.bind_some, if_pos (by simp; omega), sInts _ (by simp; omega), Option.bind_some, Option.bind_some, if_pos b0, if_pos (by omega), Option.bind_some, List.nil_append, if_pos (by simp; omega), Option.bind_some, Option.bind_some, if_pos (by simp; omega), sPairs _ (by simp; omega), Option.bind_some, once_turn totalInt, once_turn totalPair]
  rfl
theorem r_l0 (h1 : x1.length ≤ 60) : ∀ (d i : Nat) (x7 : List TPair), 20 - i ≤ d → i ≤ 60 → x7.length ≤ 30 + i → Ev (fun k => canopylaw2_SetsRows.l0 k x1 x2 x7 (i : Int)) true
  | d, i, x7, hd, hi, h7 => by
    have e : wrap64 ((i : Int) + 1) = ((i + 1 : Nat) : Int) := by rw [wrap_le (by omega) (by omega)]; omega
    have e2 : wrap64 ((i : Int) + 2) = ((i + 2 : Nat) : Int) := by rw [wrap_le (by omega) (by omega)]; omega
    by_cases c1 : i + 1 < x1.length
    · by_cases c2 : i < 20
      · obtain ⟨d, rfl⟩ : ∃ e, d = e + 1 := ⟨d - 1, by omega⟩
        refine Ev.step (fun n => ?_) (r_l0 h1 d (i + 2) (x7 ++ [⟨rd x1 (i : Int), rd x1 ((i + 1 : Nat) : Int)⟩]) (by omega) (by omega) (by simp; omega))
        rw [canopylaw2_SetsRows.l0, e, if_pos (by omega), if_pos (by omega), if_pos (by omega), if_pos (by omega), if_pos (by omega), if_pos (by omega), e2]
      · refine Ev.step (fun n => ?_) (r_j2 (x2 := x2) (x7 := x7) h1 (by omega))
        rw [canopylaw2_SetsRows.l0, e, if_pos (by omega), if_neg (by omega)]
    · refine Ev.step (fun n => ?_) (r_j2 (x2 := x2) (x7 := x7) h1 (by omega))
      rw [canopylaw2_SetsRows.l0, e, if_neg (by omega)]
end
theorem SetsRows : canopylaw2_SetsRows.Pure := by
  intro l0 l1 a2 _ _ _ _ _ _ _
  apply Ev.rounds
  refine Ev.congr (g := fun k => canopylaw2_SetsRows.f k l0 l1 a2) (f := fun k => if (l0.length : Int) > 60 then (canopylaw2_SetsRows.j0 k l0 l1 a2 true) else (canopylaw2_SetsRows.j0 k l0 l1 a2 (decide ((l1.length : Int) > 60)))) (fun n => ?_) ?_
  · unfold canopylaw2_SetsRows.f
    rw [show canopylaw2_known.f = some true from rfl, Option.bind_some, if_pos rfl]
  · have yes : Ev (fun k => canopylaw2_SetsRows.j0 k l0 l1 a2 true) true := Ev.step (fun n => by rw [canopylaw2_SetsRows.j0, if_pos rfl]) (Ev.now _)
    by_cases c1 : (l0.length : Int) > 60
    · exact Ev.congr (fun n => if_pos c1) yes
    · refine Ev.congr (fun n => if_neg c1) ?_
      by_cases c2 : (l1.length : Int) > 60
      · rw [decide_eq_true c2]
        exact yes
      · rw [decide_eq_false c2]
        refine Ev.step (f := fun n => (canopylaw2_Pairs.f n l0 30).bind fun t128 => (canopylaw2_SetsRows.l0 n l1 a2 t128 0)) (fun n => by rw [canopylaw2_SetsRows.j0, if_neg (by simp)]) ?_
        refine Ev.bind (ev_pairsE l0 30 (by omega)) ?_
        have hl := pairsE_len l0 30
        exact r_l0 (by omega) 20 0 _ (by omega) (by omega) (by omega)
end Go.Proofs.Ytmkpfamngedcmaa.Pure
