/- sets.same: whether two rows of pairs are the same. -/
import Derived.Test.YtmkpfamngedcmaaSBoth
import Derived.Test.YtmkpfamngedcmaaSInts
import Derived.ChangeKeysEq
set_option linter.unusedVariables false
set_option linter.unusedSimpArgs false
set_option linter.unnecessarySimpa false
namespace Go.Proofs.Ytmkpfamngedcmaa.P
open Go.RowKit Go.Proofs.YtmkpfamngedcmaaW.PrintWords Go.Proofs.YtmkpfamngedcmaaW.PrintLast Go.Proofs.YtmkpfamngedcmaaW.PrintMore Go.Proofs.Ytmkpfamngedcmaa.M

theorem eqArr (d : Nat) (w : World) (a b c e : Int) : (Op.equalIn (d + 2) 92 (.agg #[.int .i64 a, .int .i64 b]) (.agg #[.int .i64 c, .int .i64 e])).run Try.prog w = .ok (a == c && b == e) w := by
  obtain ⟨i, hi, hz0, hz1, hz2⟩ := info_parts infoInt
  rw [run_equalIn_array (P := Try.prog) (w := w) (d + 1) _ _ Try.underlying92 hi]
  rw [show Try.prog.cellsOf 3 = 1 by kernel_rfl, show List.range 2 = [0, 1] from rfl]
  simp only [Op.eqItems]
  go_simp
  by_cases h1 : a = c
  · by_cases h2 : b = e
    · simp [h1, h2]
    · simp [h1, h2]
  · simp [h1]
attribute [local go_sem high] eqArr
set_option maxHeartbeats 8000000 in
set_option maxRecDepth 100000 in
theorem same_calls (A : Option Addr) (c : Nat) (p : List TPair) (B : Option Addr) (e : Nat) (q : List TPair) (w : World) (hra : Kd.C k27 w A p.length p) (hrb : Kd.C k27 w B q.length q) (hl : p.length ≤ 1000000000) :
    Calls Try.prog 60 #[.slice A p.length c, .slice B q.length e] w fun e w' => e = .returned (.bool (p.length == q.length && (p.zip q).all fun z => eqP z.1 z.2)) ∧ Below w.heap.size w w' := by
  have HRa := Aside0.mk hra
  have HRb := Aside0.mk hrb
  have HL := Aside0.mk hl
  clear hra hrb hl
  by_cases hlen : p.length = q.length
  · have d1 : (p.length == q.length) = true := beq_iff_eq.mpr hlen
    have d2 : ((p.length : Int) == (q.length : Int)) = true := by simp [hlen]
    have d3 : ((p.length : Int) != (q.length : Int)) = false := by simp [hlen]
    have Hlen := Aside0.mk hlen
    clear hlen
    rw [d1, Bool.true_and]
    go_enter Try.func60, Try.ntmps60
    go_wp2
    go_loopg [13] p.length (fun gq v13 w' => ∃ i : Nat, v13 = .int .i64 (i : Int) ∧ Aside0 (i ≤ p.length ∧ p.length - i ≤ gq) ∧ Aside0 (((p.take i).zip (q.take i)).all (fun z => eqP z.1 z.2) = true) ∧ Drawn0 w w')
    case atStart => exact ⟨0, rfl, ⟨by omega, by omega⟩, ⟨by simp⟩, Drawn0.refl _⟩
    case round =>
      obtain ⟨i, rfl, Hi, Ha, nd, rfl⟩ := hrel
      by_cases hlt : i < p.length
      · have e1 : (i < p.length) = True := eq_true hlt
        have HLT := Aside0.mk hlt
        have hq : i < q.length := by have := Hlen.out; omega
        obtain ⟨ad, eA, c0, c1⟩ := pair_at HRa.out i hlt
        obtain ⟨bd, eB, c2, c3⟩ := pair_at HRb.out i hq
        have Hn : Aside0 (((p.take (i + 1)).zip (q.take (i + 1))).all (fun z => eqP z.1 z.2) = eqP p[i] q[i]) := ⟨by
          rw [List.take_add_one, List.take_add_one, List.getElem?_eq_getElem hlt, List.getElem?_eq_getElem hq, List.zip_append (by simp; omega), List.all_append, Ha.out]
          simp⟩
        have Hz : Aside0 (eqP p[i] q[i] = false → (p.zip q).all (fun z => eqP z.1 z.2) = false) := ⟨fun h => by
          rw [List.all_eq_false]
          exact ⟨(p[i], q[i]), List.mem_iff_getElem.2 ⟨i, by rw [List.length_zip]; omega, by simp⟩, by simp [h]⟩⟩
        generalize p[i] = x at c0 c1 Hn Hz
        generalize q[i] = y at c2 c3 Hn Hz
        obtain ⟨x0, x1⟩ := x
        obtain ⟨y0, y1⟩ := y
        have eA0 := eA
        subst eA0
        have eB0 := eB
        subst eB0
        have t1 := eq_true (show (0 : Int) ≤ (i : Int) by omega)
        have t2 := eq_true (show (i : Int) < (p.length : Int) by omega)
        have t3 := eq_true (show (i : Int) < (q.length : Int) by omega)
        clear hlt hq eA eB
        go_wp2
        go_quiet (fail)
        obtain ⟨nq1, rfl⟩ : ∃ m : Nat, m = nq := ⟨_, rfl⟩
        clear c0 c1 c2 c3
        have He : Aside0 (eqP { f0 := x0, f1 := x1 } { f0 := y0, f1 := y1 } = (x0 == y0 && x1 == y1)) := ⟨rfl⟩
        rw [← Bool.not_and]
        generalize (x0 == y0 && x1 == y1) = bb at He ⊢
        cases bb with
        | true =>
          go_wp2
          go_roundg (p.length - (i + 1))
          case measure => have := Hi.out; have := HLT.out; omega
          case rel => exact ⟨i + 1, by have := HL.out; have := HLT.out; rw [show wrap64 ((i : Int) + 1) = ((i + 1 : Nat) : Int) by unfold wrap64; omega], ⟨HLT.out, Nat.le_refl _⟩, ⟨by rw [Hn.out, He.out]⟩, by repeat (first | exact Drawn0.refl _ | apply Drawn0.step)⟩
        | false =>
          go_wp2
          go_ret
          exact ⟨by rw [Hz.out He.out]; rfl, by repeat (first | exact Below.refl _ _ | apply pw_below_drewN)⟩
      · have e1 : (i < p.length) = False := eq_false hlt
        have Hend : Aside0 ((p.zip q).all (fun z => eqP z.1 z.2) = true) := ⟨by
          have h := Ha.out
          have := Hlen.out
          have := Hi.out
          rw [List.take_of_length_le (by omega), List.take_of_length_le (by omega)] at h
          exact h⟩
        clear hlt
        go_wp2
        go_ret
        exact ⟨by rw [Hend.out]; rfl, by repeat (first | exact Below.refl _ _ | apply pw_below_drewN)⟩
  · have d1 : (p.length == q.length) = false := beq_eq_false_iff_ne.mpr hlen
    have d3 : ((p.length : Int) != (q.length : Int)) = true := bne_iff_ne.mpr (by omega)
    clear hlen
    rw [d1, Bool.false_and]
    go_enter Try.func60, Try.ntmps60
    go_wp2
    go_ret
    exact ⟨rfl, Below.refl _ _⟩
theorem same_iff (p q : List TPair) : (p.length == q.length && (p.zip q).all fun z => eqP z.1 z.2) = true ↔ p = q := by
  rw [Bool.and_eq_true, beq_iff_eq]
  constructor
  · rintro ⟨h1, h2⟩
    apply List.ext_getElem h1
    intro i hp hq
    rw [List.all_eq_true] at h2
    have h3 := h2 (p[i], q[i]) (List.mem_iff_getElem.2 ⟨i, by rw [List.length_zip]; omega, by simp⟩)
    rw [eqP_iff, decide_eq_true_eq] at h3
    exact totalPair.zero.1 h3
  · rintro rfl
    refine ⟨rfl, ?_⟩
    rw [List.all_eq_true]
    intro z hz
    obtain ⟨i, hi, rfl⟩ := List.mem_iff_getElem.1 hz
    rw [eqP_iff, decide_eq_true_eq]
    simp only [List.getElem_zip]
    exact totalPair.self _
end Go.Proofs.Ytmkpfamngedcmaa.P
