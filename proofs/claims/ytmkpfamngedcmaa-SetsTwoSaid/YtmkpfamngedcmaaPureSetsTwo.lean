/- SetsTwo's plain law: what both have, what one of two has. -/
import Derived.Test.YtmkpfamngedcmaaPCanopylaw2SetsTwo
import Derived.Test.YtmkpfamngedcmaaUPairsN
set_option linter.unusedVariables false
set_option linter.unusedSimpArgs false
namespace Go.Proofs.Ytmkpfamngedcmaa.Pure
open Go.RowKit Go.Proofs.Ytmkpfamngedcmaa.P Go.Proofs.Ytmkpfamngedcmaa.M Go.Proofs.YtmkpfamngedcmaaW.PrintWords Go.Proofs.YtmkpfamngedcmaaW.PrintLast Go.Proofs.YtmkpfamngedcmaaW.PrintMore

theorem evBindE {α β : Type} {o : Option α} {a : α} {f : Nat → α → Option β} {r : β} (h : o = some a) (k : Ev (fun n => f n a) r) : Ev (fun n => o.bind (f n)) r := by subst h; exact k
theorem evIfT {α : Type} {g f : Nat → Option α} {r : α} {b : Bool} (h : b = true) (k : Ev g r) : Ev (fun n => if b = true then g n else f n) r := Ev.congr (fun n => if_pos h) k
theorem mem_both {a b : List TPair} {x : TPair} : x ∈ bothL a b ↔ x ∈ a ∧ x ∈ b := by
  unfold bothL
  rw [List.mem_filter, totalPair.mem_once, List.any_eq_true]
  constructor
  · rintro ⟨h1, z, hz, he⟩
    rw [eqP_iff, decide_eq_true_iff] at he
    rw [totalPair.zero.1 he, totalPair.mem_once] at hz
    exact ⟨h1, hz⟩
  · rintro ⟨h1, h2⟩
    exact ⟨h1, x, totalPair.mem_once.2 h2, by rw [eqP_iff, decide_eq_true_iff]; exact totalPair.zero.2 rfl⟩
theorem both_sorted (a b : List TPair) : (bothL a b).Pairwise (fun x y => cmpPair x y < 0) := (totalPair.once_sorted a).sublist List.filter_sublist
theorem both_once {a b l : List TPair} (h : ∀ x, x ∈ l ↔ x ∈ a ∧ x ∈ b) : bothL a b = onceC cmpPair l :=
  totalPair.unique (both_sorted a b) (totalPair.once_sorted l) (fun x => by rw [mem_both, totalPair.mem_once, h])
theorem both_len (a b : List TPair) : (bothL a b).length ≤ a.length := Nat.le_trans (List.length_filter_le _ _) (once_len totalPair a)
section
variable {a b : List TPair}
theorem both_l1 (ha : a.length ≤ 100) (hb : b.length ≤ 100) {i : Nat} (hi : i < a.length)
    (ih : ∀ acc : List TPair, acc.length ≤ (i + 1) * 100 → (∀ x, x ∈ acc ↔ x ∈ a.take (i + 1) ∧ x ∈ b) → Ev (fun k => canopyref2_Both.l0 k a b acc ((i + 1 : Nat) : Int)) (bothL a b)) :
    ∀ (d j : Nat), b.length - j = d → j ≤ b.length → ∀ acc : List TPair, acc.length ≤ i * 100 + j → (∀ x, x ∈ acc ↔ (x ∈ a.take i ∧ x ∈ b) ∨ (x = a[i] ∧ x ∈ b.take j)) → Ev (fun k => canopyref2_Both.l1 k a b acc (i : Int) (j : Int)) (bothL a b)
  | 0, j, hd, hj, acc, hl, hx => by
    obtain rfl : j = b.length := by omega
    have e : wrap64 ((i : Int) + 1) = ((i + 1 : Nat) : Int) := by rw [wrap_le (by omega) (by omega)]; omega
    refine Ev.step (fun n => ?_) (ih acc (by omega) (fun x => ?_))
    · rw [canopyref2_Both.l1, if_neg (by omega), e]
    · rw [hx x, List.take_length, List.take_add_one, List.getElem?_eq_getElem hi, List.mem_append]
      simp only [Option.toList_some, List.mem_singleton]
      constructor
      · rintro (h | h)
        · exact ⟨.inl h.1, h.2⟩
        · exact ⟨.inr h.1, h.2⟩
      · rintro ⟨h1 | h1, h2⟩
        · exact .inl ⟨h1, h2⟩
        · exact .inr ⟨h1, h2⟩
  | d + 1, j, hd, hj, acc, hl, hx => by
    have hlt : j < b.length := by omega
    have e : wrap64 ((j : Int) + 1) = ((j + 1 : Nat) : Int) := by rw [wrap_le (by omega) (by omega)]; omega
    have hi100 : i * 100 ≤ 100 * 100 := Nat.mul_le_mul_right _ (by omega)
    have stp : ∀ n, canopyref2_Both.l1 (n + 1) a b acc (i : Int) (j : Int) = if (a[i].f0 == b[j].f0 && (a[i].f1 == b[j].f1)) = true then canopyref2_Both.l1 n a b (acc ++ [(⟨a[i].f0, a[i].f1⟩ : TPair)]) (i : Int) ((j + 1 : Nat) : Int) else canopyref2_Both.l1 n a b acc (i : Int) ((j + 1 : Nat) : Int) := fun n => by
      rw [canopyref2_Both.l1, if_pos (by omega), if_pos (by omega), if_pos (by omega), if_pos (by omega), rdP a i hi, rdP b j hlt, e]
      split
      · rw [if_pos (by omega)]
      · rfl
    have etk : ∀ x, x ∈ b.take (j + 1) ↔ x ∈ b.take j ∨ x = b[j] := fun x => by
      rw [List.take_add_one, List.getElem?_eq_getElem hlt, List.mem_append]
      simp
    by_cases he : a[i] = b[j]
    · refine Ev.step (fun n => (stp n).trans (if_pos ?_)) (both_l1 ha hb hi ih d (j + 1) (by omega) (by omega) (acc ++ [(⟨a[i].f0, a[i].f1⟩ : TPair)]) (by simp; omega) (fun x => ?_))
      · rw [he]; simp
      · rw [List.mem_append, List.mem_singleton, hx x, etk]
        constructor
        · rintro ((h | h) | h)
          · exact .inl h
          · exact .inr ⟨h.1, .inl h.2⟩
          · exact .inr ⟨h, .inr (by rw [← he]; exact h)⟩
        · rintro (h | ⟨h1, h2 | h2⟩)
          · exact .inl (.inl h)
          · exact .inl (.inr ⟨h1, h2⟩)
          · exact .inr h1
    · refine Ev.step (fun n => (stp n).trans (if_neg ?_)) (both_l1 ha hb hi ih d (j + 1) (by omega) (by omega) acc (by omega) (fun x => ?_))
      · intro h
        rw [Bool.and_eq_true, beq_iff_eq, beq_iff_eq] at h
        refine he ?_
        generalize a[i] = y at h
        generalize b[j] = z at h
        cases y; cases z
        simp only at h
        rw [h.1, h.2]
      · rw [hx x, etk]
        constructor
        · rintro (h | h)
          · exact .inl h
          · exact .inr ⟨h.1, .inl h.2⟩
        · rintro (h | ⟨h1, h2 | h2⟩)
          · exact .inl h
          · exact .inr ⟨h1, h2⟩
          · exact absurd (h1.symm.trans h2) he
theorem both_l0 (ha : a.length ≤ 100) (hb : b.length ≤ 100) : ∀ (d i : Nat), a.length - i = d → i ≤ a.length → ∀ acc : List TPair, acc.length ≤ i * 100 → (∀ x, x ∈ acc ↔ x ∈ a.take i ∧ x ∈ b) → Ev (fun k => canopyref2_Both.l0 k a b acc (i : Int)) (bothL a b)
  | 0, i, hd, hi, acc, hl, hx => by
    obtain rfl : i = a.length := by omega
    have h1 : acc.length ≤ 1000000000 := Nat.le_trans hl (Nat.le_trans (Nat.mul_le_mul_right 100 ha) (by omega))
    refine Ev.step (f := fun n => (canopyref2_Pairs.f n acc).bind fun t => (some t)) (fun n => by rw [canopyref2_Both.l0, if_neg (by omega)]) (Ev.bind (ev_Pairs acc h1) ?_)
    rw [both_once (l := acc) (fun x => by rw [hx x, List.take_length])]
    exact Ev.now _
  | d + 1, i, hd, hi, acc, hl, hx => by
    have hlt : i < a.length := by omega
    refine Ev.step (fun n => ?_) (both_l1 ha hb hlt (both_l0 ha hb d (i + 1) (by omega) (by omega)) b.length 0 (by omega) (by omega) acc (by omega) (fun x => ?_))
    · rw [canopyref2_Both.l0, if_pos (by omega)]
      rfl
    · rw [hx x]
      simp
end
theorem ev_RefBoth (a b : List TPair) (ha : a.length ≤ 100) (hb : b.length ≤ 100) : Ev (fun k => canopyref2_Both.f k a b) (bothL a b) :=
  both_l0 ha hb a.length 0 (by omega) (by omega) [] (by simp) (fun x => by simp)
theorem ev_RefJoin (a b : List TPair) (ha : a.length ≤ 100) (hb : b.length ≤ 100) : Ev (fun k => canopyref2_Join.f k a b) (onceC cmpPair (a ++ b)) := by
  refine Ev.congr (fun n => ?_) (Ev.bind (ev_Pairs (a ++ b) (by simp; omega)) (f := fun _ t => some t) (Ev.now _))
  unfold canopyref2_Join.f
  rw [Option.bind_some, List.nil_append, if_pos (by simp; omega), Option.bind_some, if_pos (by omega)]
theorem sBoth (a b : List TPair) (ha : a.length ≤ 1000) (hb : b.length ≤ 1000) : sets_Both.f a b = some (bothL a b) := if_pos ⟨by omega, by omega⟩
theorem sJoin (a b : List TPair) (ha : a.length ≤ 1000) (hb : b.length ≤ 1000) : sets_Join.f a b = some (onceC cmpPair (a ++ b)) := if_pos ⟨by omega, by omega⟩
theorem sPairs2 (l : List TPair) (h : l.length ≤ 1000000000) : sets_Pairs.f l = some (onceC cmpPair l) := if_pos h
theorem both_join (a b c : List TPair) : bothL a (onceC cmpPair (b ++ c)) = onceC cmpPair (bothL a b ++ bothL a c) := both_once (fun x => by
  rw [List.mem_append, mem_both, mem_both, totalPair.mem_once, List.mem_append]
  constructor
  · rintro (h | h)
    · exact ⟨h.1, .inl h.2⟩
    · exact ⟨h.1, .inr h.2⟩
  · rintro ⟨h1, h2 | h2⟩
    · exact .inl ⟨h1, h2⟩
    · exact .inr ⟨h1, h2⟩)
theorem join_self (a : List TPair) : onceC cmpPair (a ++ a) = onceC cmpPair a := once_same totalPair (fun x => by simp)
theorem both_swap (a b : List TPair) : bothL a b = bothL b a := totalPair.unique (both_sorted a b) (both_sorted b a) (fun x => by rw [mem_both, mem_both]; exact And.comm)
theorem SetsTwo : canopylaw2_SetsTwo.Pure := by
  intro l0 l1 l2 _ _ _ _ _ _ _ _ _
  apply Ev.rounds
  unfold canopylaw2_SetsTwo.f
  refine evBindE (show canopylaw2_known.f = some true from rfl) (evIfT rfl ?_)
  refine Ev.bind (ev_pairsE l0 20 (by omega)) (Ev.bind (ev_pairsE l1 20 (by omega)) (Ev.bind (ev_pairsE l2 20 (by omega)) ?_))
  have ha := pairsE_len l0 20
  have hb := pairsE_len l1 20
  have hc := pairsE_len l2 20
  generalize pairsE l0 20 = a at ha ⊢
  generalize pairsE l1 20 = b at hb ⊢
  generalize pairsE l2 20 = c at hc ⊢
  replace ha : a.length ≤ 20 := ha
  replace hb : b.length ≤ 20 := hb
  replace hc : c.length ≤ 20 := hc
  have hab := both_len a b
  have hac := both_len a c
  have hba := both_len b a
  have hj1 := once_len totalPair (a ++ b)
  have hj2 := once_len totalPair (b ++ c)
  have hj3 := once_len totalPair (a ++ a)
  have hbj := both_len a (onceC cmpPair (b ++ c))
  rw [List.length_append] at hj1 hj2 hj3
  refine evBindE (sBoth a b (by omega) (by omega)) (Ev.bind (ev_RefBoth a b (by omega) (by omega)) (Ev.bind (ev_Same _ _ (by omega)) (evIfT (decide_eq_true rfl) ?_)))
  refine evBindE (sJoin a b (by omega) (by omega)) (Ev.bind (ev_RefJoin a b (by omega) (by omega)) (Ev.bind (ev_Same _ _ (by omega)) (evIfT (decide_eq_true rfl) ?_)))
  refine evBindE (sJoin b c (by omega) (by omega)) (evBindE (sBoth a _ (by omega) (by omega)) (evBindE (sBoth a b (by omega) (by omega)) (evBindE (sBoth a c (by omega) (by omega)) (evBindE (sJoin _ _ (by omega) (by omega)) (Ev.bind (ev_Same _ _ (by omega)) (evIfT (decide_eq_true (both_join a b c)) ?_))))))
  refine evBindE (sJoin a a (by omega) (by omega)) (evBindE (sPairs2 a (by omega)) (Ev.bind (ev_Same _ _ (by omega)) (evIfT (decide_eq_true (join_self a)) ?_)))
  refine evBindE (sBoth a b (by omega) (by omega)) (evBindE (sBoth b a (by omega) (by omega)) (Ev.bind (ev_Same _ _ (by omega)) ?_))
  rw [decide_eq_true (both_swap a b)]
  exact Ev.now _
end Go.Proofs.Ytmkpfamngedcmaa.Pure
