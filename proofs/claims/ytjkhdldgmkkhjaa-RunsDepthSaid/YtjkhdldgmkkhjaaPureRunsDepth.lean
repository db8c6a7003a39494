/- RunsDepth's plain law: each place behind a word has as many marks as symbols opened without a partner. -/
import Derived.Test.YtjkhdldgmkkhjaaPCanopylaw4RunsDepth
import Derived.Test.YtjkhdldgmkkhjaaUConf
set_option linter.unusedVariables false
set_option linter.unusedSimpArgs false
namespace Go.Proofs.Ytjkhdldgmkkhjaa.Pure
open Go.RowKit Go.Proofs.Ytjkhdldgmkkhjaa.P Go.Proofs.Ytjkhdldgmkkhjaa.M Go.Proofs.YtjkhdldgmkkhjaaW.PrintWords Go.Proofs.YtjkhdldgmkkhjaaW.PrintLast Go.Proofs.YtjkhdldgmkkhjaaW.PrintMore

section
variable {l : List SSym} {w : List Int} {N G : Int} {init final : List Int} {st : MSt}
theorem sorted_f0 {p : List TAt} (h : sortedAt p) (i : Int) (h0 : 0 < i) (h1 : i < p.length) : ¬ (rd_T48 p (i - 1)).f0 > (rd_T48 p i).f0 := by
  have e : ∀ j : Int, (h : j.toNat < p.length) → rd_T48 p j = p[j.toNat] := fun j h => by
    unfold rd_T48
    rw [List.getD_eq_getElem?_getD, List.getElem?_eq_getElem h]; rfl
  rw [e i (by omega), e (i - 1) (by omega)]
  have := List.pairwise_iff_getElem.1 h (i - 1).toNat i.toNat (by omega) (by omega) (by omega)
  intro hgt
  unfold cmpAt orInt at this
  have h2 := cmpInt_lt.2 hgt
  have h3 := cmpInt_anti p[(i - 1).toNat].f0 p[i.toNat].f0
  split at this <;> omega
theorem d_loop1 {p : List TAt} {d : Nat} {at_ : Int} (hs : sortedAt p) (hp : ∀ x ∈ p, ConfOk N G d x) (hpl : p.length ≤ 70000) {K : Nat}
    (next : ∀ k, K < k → canopylaw4_RunsDepth.l0 k l w p (d : Int) (wrap64 (at_ + 1)) N G init final st.o st.c st.n = some true) : ∀ (n : Nat) (i : Int), 0 ≤ i → i ≤ p.length → p.length - i = n → ∀ k, n + K + 1 < k →
    canopylaw4_RunsDepth.l1 k l w p (d : Int) at_ i N G init final st.o st.c st.n = some true
  | n, i, h0, h1, hd, k + 1, hk => by
    unfold canopylaw4_RunsDepth.l1
    by_cases c1 : i < (p.length : Int)
    · obtain ⟨n, rfl⟩ : ∃ e, n = e + 1 := ⟨n - 1, by omega⟩
      have hx : rd_T48 p i ∈ p := by
        unfold rd_T48
        rw [List.getD_eq_getElem?_getD, List.getElem?_eq_getElem (by omega)]
        exact List.getElem_mem _
      obtain ⟨q1, q2, q3⟩ := hp _ hx
      rw [if_pos c1, if_pos h0, if_pos (by rw [q2]), if_neg (by omega), if_neg (by omega)]
      have rcc := d_loop1 hs hp hpl next n (i + 1) (by omega) (by omega) (by omega) k (by omega)
      rw [wrap_id (n := i + 1) (by omega) (by omega)]
      by_cases c2 : i > 0
      · rw [if_pos c2, wrap_id (n := i - 1) (by omega) (by omega), if_pos (by omega), if_pos (by omega), if_neg (sorted_f0 hs i (by omega) c1)]
        exact rcc
      · rw [if_neg c2]
        exact rcc
    · rw [if_neg c1]
      exact next k (by omega)
theorem d_loop0 (hG : 0 ≤ G) (hG2 : G ≤ 2) (hw : ∀ s ∈ w, 0 ≤ s ∧ s < l.length) (I : MkInv l N G st) (L : MkLen st 24) (hN : 0 ≤ N) (hN4 : N ≤ 4) (hwl : w.length ≤ 1000) (ho : opensIn l w ≤ 14) (hin : ∀ s ∈ init, 0 ≤ s ∧ s < N) {C : Nat} (hC : 70000 ≤ C) : ∀ (d : Nat) (i : Int), 0 ≤ i → i ≤ w.length → w.length - i = d → ∀ k, d * C + 1 < k →
    canopylaw4_RunsDepth.l0 k l w (runL l st.o st.c st.n (startL init) (w.take i.toNat)) (dRun l (w.take i.toNat) 0 : Nat) i N G init final st.o st.c st.n = some true
  | d, i, h0, h1, hd, k + 1, hk => by
    unfold canopylaw4_RunsDepth.l0
    by_cases c1 : i < (w.length : Int)
    · obtain ⟨d, rfl⟩ : ∃ e, d = e + 1 := ⟨d - 1, by omega⟩
      rw [Nat.succ_mul] at hk
      have sub : ∀ j : Nat, ∀ s ∈ w.take j, 0 ≤ s ∧ s < l.length := fun j s hs => hw s (List.mem_of_mem_take hs)
      have hc := fun j : Nat => conf_run I (w.take j) (at_ := startL init) (d := 0) (conf_start hin) (sub j)
      have hs := fun j : Nat => run_sorted (l := l) (os := st.o) (cs := st.c) (is := st.n) (w.take j) (start_sorted init)
      have hd := fun j : Nat => dRun_le l (w.take j) 0
      have hd2 := fun j : Nat => opens_take l w j
      have bd : ∀ j : Nat, dRun l (w.take j) 0 ≤ 14 := fun j => by have := hd j; have := hd2 j; omega
      have ok := step_ok hN hN4 hG hG2 (bd i.toNat) (hs i.toNat) (hc i.toNat) L
      have e : runs_Step.f l N G init final st.o st.c st.n (runL l st.o st.c st.n (startL init) (w.take i.toNat)) (rd w i) = some (runL l st.o st.c st.n (startL init) (w.take (i + 1).toNat)) := by
        unfold runs_Step.f
        rw [if_pos ok, take_last w i h0 (by omega), run_snoc]
      have hx := rd_in hw h0 c1
      have hfew := conf_few hN hG (hs (i + 1).toNat) (hc (i + 1).toNat)
      have h2 : G.toNat ^ dRun l (w.take (i + 1).toNat) 0 ≤ 2 ^ 14 := Nat.le_trans (Nat.pow_le_pow_left (show G.toNat ≤ 2 by omega) _) (Nat.pow_le_pow_right (by omega) (bd _))
      have h3 : N.toNat * G.toNat ^ dRun l (w.take (i + 1).toNat) 0 ≤ 4 * 2 ^ 14 := Nat.mul_le_mul (by omega) h2
      have wi : wrap64 (i + 1) = i + 1 := wrap_id (by omega) (by omega)
      have hn : ∀ kk, d * C + 1 < kk → _ := fun kk hkk => d_loop0 hG hG2 hw I L hN hN4 hwl ho hin hC d (i + 1) (by omega) (by omega) (by omega) kk hkk
      have rcc := fun kk hkk => d_loop1 (l := l) (w := w) (init := init) (final := final) (st := st) (at_ := i) (hs (i + 1).toNat) (hc (i + 1).toNat) (by omega) (K := d * C + 1) (fun k hk => by rw [wi]; exact hn k hk) (runL l st.o st.c st.n (startL init) (w.take (i + 1).toNat)).length 0 (by omega) (by omega) (by omega) kk hkk
      obtain ⟨k, rfl⟩ : ∃ m, k = m + 1 := ⟨k - 1, by omega⟩
      have ed : dRun l (w.take (i + 1).toNat) 0 = dNext (rd_T46 l (rd w i)).f1 (dRun l (w.take i.toNat) 0) := by rw [take_last w i h0 (by omega), dRun_snoc]
      have b0 := bd i.toNat
      have rcc := rcc k (by omega)
      rw [if_pos c1, if_pos h0, e]
      simp only [Option.bind_some]
      rw [if_pos hx.1, if_pos hx.2]
      simp only [canopylaw4_RunsDepth.j1]
      by_cases k1 : (rd_T46 l (rd w i)).f1 = 1
      · rw [if_pos k1, wrap_id (by omega) (by omega)]
        rw [ed, dNext, if_pos k1] at rcc
        exact rcc
      · rw [if_neg k1]
        by_cases k2 : (rd_T46 l (rd w i)).f1 = 2
        · rw [if_pos k2, wrap_id (by omega) (by omega)]
          rw [ed, dNext, if_neg k1, if_pos k2] at rcc
          rw [show mx ((dRun l (w.take i.toNat) 0 : Nat) - 1 : Int) 0 = ((dRun l (w.take i.toNat) 0 - 1 : Nat) : Int) by unfold mx; split <;> omega]
          exact rcc
        · rw [if_neg k2]
          rw [ed, dNext, if_neg k1, if_neg k2] at rcc
          exact rcc
    · rw [if_neg c1]
end
/-- YOURS -/
theorem RunsDepth : canopylaw4_RunsDepth.Pure := by
  intro a0 a1 l2 l3 w0 w1 m2 y2 f2 m3 y3 f3
  have hl := symsL_ok a0 l2
  obtain ⟨k1, h1⟩ := make_eq hl a1 l2 4 (by omega) (by omega)
  have hN := makeN_in a1 (most := 4) (by omega)
  have hG := makeG_in a1
  have hw := word_eq hl l3 m3 12 (by omega) (by omega)
  have hwm : ∀ x ∈ wordL (symsL a0 l2) l3 12, 0 ≤ x ∧ x < (symsL a0 l2).length := fun x hx => wordL_mem hl hx
  have hwl := wordL_len (symsL a0 l2) l3 12
  have hf := few_eq (l := symsL a0 l2) _ (by omega) hwm 5 (by omega)
  have hfm := few_mem (l := symsL a0 l2) (most := 5) (n := 0) hwm
  have hfl := few_len (l := symsL a0 l2) (most := 5) (n := 0) (w := wordL (symsL a0 l2) l3 12)
  have hfo := few_opens (l := symsL a0 l2) (most := 5) (n := 0) (w := wordL (symsL a0 l2) l3 12) (by omega)
  obtain ⟨I, L⟩ := mkAll_inv hl (N := makeN a1 4) (G := makeG a1) (by omega) (by omega) l2
  obtain ⟨K, hK⟩ : ∃ K : Nat, k1 + 3000000 ≤ K := ⟨_, Nat.le_refl _⟩
  refine ⟨K, ?_⟩
  unfold canopylaw4_RunsDepth.f
  rw [show canopylaw4_known.f = some true from rfl, syms_eq a0 l2 m2]
  simp only [Option.bind_some, if_true]
  rw [h1 _ (by omega), hw _ (by omega)]
  simp only [Option.bind_some]
  rw [hf _ (by omega)]
  simp only [Option.bind_some]
  generalize fewL (symsL a0 l2) 5 (wordL (symsL a0 l2) l3 12) 0 = w at hfm hfl hfo
  generalize symsL a0 l2 = l at hl hfm hfo I L
  have el : makeL l a1 l2 4 = mkFin (makeN a1 4) (makeG a1) (mkAll l (makeN a1 4) (makeG a1) l2) := rfl
  rw [el]
  generalize mkAll l (makeN a1 4) (makeG a1) l2 = st at I L
  generalize makeN a1 4 = N at hN I
  generalize makeG a1 = G at hG I
  simp only [mkFin]
  generalize hi : (if (st.i.length : Int) = 0 then [0] else st.i) = init
  have hin : ∀ s ∈ init, 0 ≤ s ∧ s < N := by
    rw [← hi]
    split
    · intro s hs; rw [List.mem_singleton.1 hs]; omega
    · exact I.i
  have hil : init.length ≤ 24 := by
    rw [← hi]
    have := L.1
    split
    · simp
    · omega
  have es : runs_Start.f N G init st.f st.o st.c st.n = some (startL init) := by unfold runs_Start.f; rw [if_pos (by omega)]
  rw [es]
  simp only [Option.bind_some]
  exact d_loop0 (by omega) (by omega) hfm I L (by omega) (by omega) (by omega) (by omega) hin (C := 70000) (Nat.le_refl _) w.length 0 (by omega) (by omega) (by omega) _ (by omega)
end Go.Proofs.Ytjkhdldgmkkhjaa.Pure
