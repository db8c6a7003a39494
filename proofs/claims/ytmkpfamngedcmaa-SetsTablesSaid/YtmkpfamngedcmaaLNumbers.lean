/- SetsNumbers, walked by hand: rows are numbered as they come. -/
import Derived.Test.YtmkpfamngedcmaaLApart
set_option linter.unusedVariables false
set_option linter.unusedSimpArgs false
set_option linter.unnecessarySimpa false
namespace Go.Proofs.Ytmkpfamngedcmaa.P
open Go.RowKit Go.Proofs.YtmkpfamngedcmaaW.PrintWords Go.Proofs.YtmkpfamngedcmaaW.PrintLast Go.Proofs.YtmkpfamngedcmaaW.PrintMore Go.Proofs.Ytmkpfamngedcmaa.M Go.Proofs.Ytmkpfamngedcmaa.Pure

theorem rowR_out {rows : List (List TPair)} {i : Int} (h : i < 0 ∨ (rows.length : Int) ≤ i) : rowR rows i = [] := by unfold rowR; rw [if_neg (by omega)]
theorem rowR_idx {rows : List (List TPair)} {r : List TPair} (h : r ∈ rows) : rowR rows (rows.idxOf r : Int) = r := by
  have hl := List.idxOf_lt_length_of_mem h
  unfold rowR
  rw [if_pos ⟨by omega, by omega⟩, Int.toNat_natCast, List.getD_eq_getElem?_getD, List.getElem?_eq_getElem hl]
  simp
theorem rowR_last (rows : List (List TPair)) (r : List TPair) : rowR (rows ++ [r]) (rows.length : Int) = r := by
  unfold rowR
  rw [if_pos ⟨by omega, by simp; omega⟩, Int.toNat_natCast, List.getD_eq_getElem?_getD]
  simp
theorem cut_ints {w : World} {A : Option Addr} {c : Nat} {xs : List Int} (h : Kd.C (Kd.int .i64) w A xs.length xs) (f : Nat) (hf : f ≤ xs.length) (hc : xs.length ≤ c) : Kd.C (Kd.int .i64) w (if c = f then A else A.map (·.add (f * 1))) (xs.length - f) (xs.drop f) := by
  have h2 := Kd.C_drop (m := f) (c := c) h hf hc
  rw [List.length_drop] at h2
  exact h2
def canopylaw2_SetsNumbers.Pure : Prop := True
set_option maxHeartbeats 16000000 in
set_option maxRecDepth 100000 in
theorem canopylaw2_SetsNumbers.calls (A0 : Option Addr) (c0 : Nat) (l0 : List Int) (A1 : Option Addr) (c1 : Nat) (l1 : List Int) (w : World) (hr0 : Kd.C (Kd.int .i64) w A0 l0.length l0) (hc0 : l0.length ≤ c0) (hr1 : Kd.C (Kd.int .i64) w A1 l1.length l1) (hc1 : l1.length ≤ c1) (hm0 : l0.length ≤ 17592186044416) (hm1 : l1.length ≤ 17592186044416) :
    Calls Try.prog 9 #[.slice A0 l0.length c0, .slice A1 l1.length c1] w fun e w' => e = .returned (.bool true) ∧ Below w.heap.size w w' := by
  have HR := Aside0.mk (And.intro hr0 (And.intro hc0 (And.intro hr1 hc1)))
  have HM := Aside0.mk (And.intro hm0 hm1)
  clear hr0 hc0 hr1 hc1 hm0 hm1
  go_enter Try.func9, Try.ntmps9
  go_wp2_with fail
  refine (canopylaw2_known.calls true _ rfl).mono ?_
  rintro e w1 ⟨rfl, hb1⟩
  have HB1 := Aside0.mk hb1
  clear hb1
  go_wp2_with fail
  refine (new_calls _).mono ?_
  rintro e w2 ⟨ga, fa, rfl, ht2, hs2, hb2⟩
  have HT2 := Aside0.mk ht2
  have HS2 : Aside0 (∀ k, fa k → w.heap.size ≤ k) := ⟨fun k hk => Nat.le_trans HB1.out.size (hs2 k hk)⟩
  have HB2 := Aside0.mk (below_then HB1.out HB1.out.size hb2)
  clear ht2 hs2 hb2
  go_wp2
  go_loopg [6, 7] l0.length (fun gq v6 v7 w' => ∃ (i : Nat) (rows : List (List TPair)) (ft : Nat → Prop), v6 = .int .i64 (rows.length : Int) ∧ v7 = .int .i64 (i : Int) ∧ Aside0 (i ≤ l0.length ∧ l0.length - i ≤ gq ∧ i ≤ 30 ∧ rows.length ≤ i) ∧ Aside0 (Tab w' ga ft rows) ∧ Aside0 (∀ k, ft k → w.heap.size ≤ k) ∧ Aside0 (Below w.heap.size w w'))
  case atStart => exact ⟨0, [], fa, rfl, rfl, ⟨by omega, by omega, by omega, by simp⟩, HT2, HS2, HB2⟩
  case round =>
    clear HT2 HS2 HB2 HB1
    obtain ⟨i, rows, ft, rfl, rfl, Hi, HT, HS, HB⟩ := hrel
    obtain ⟨wo, rfl⟩ : ∃ wo : World, wo = wr := ⟨_, rfl⟩
    have m1 : (rows.length : Int) ≤ 30 := by have := Hi.out; omega
    by_cases hlt : i < l0.length ∧ i < 30
    · have HLT := Aside0.mk hlt
      obtain ⟨ad0, e0, cx0⟩ := int_at (Kd.C_below HR.out.1 HB.out) i hlt.1
      generalize l0[i] = x at cx0
      have t1 := eq_true hlt.1
      have t2 := decide_eq_true hlt.1
      have t3 := eq_true (show (i : Int) < 30 by omega)
      have t4 := decide_eq_true (show (i : Int) < 30 by omega)
      subst e0
      obtain ⟨n, hn0, hn1, hw⟩ : ∃ n : Nat, 0 ≤ n ∧ n < 1073741824 ∧ canopylaw2_within.f x 1073741824 = some (n : Int) := by
        refine ⟨(x % 1073741824).toNat, by omega, ?_, ?_⟩
        · have := Int.emod_lt_of_pos x (show (0 : Int) < 1073741824 by decide)
          have := Int.emod_nonneg x (show (1073741824 : Int) ≠ 0 by decide)
          omega
        · rw [withinE (by omega) (by omega), Int.toNat_of_nonneg (Int.emod_nonneg x (by decide))]
      have HW := Aside0.mk hw
      have HN := Aside0.mk (And.intro hn0 hn1)
      clear hlt hw hn0 hn1
      go_upto_if 37 with (first | (go_at_call 14; go_loud (refine (canopylaw2_within.calls x 1073741824 (n : Int) _ HW.out).mono ?_; rintro e w3 ⟨rfl, hd3⟩)))
      have HT3 := Aside0.mk (HT.out.below hd3.below)
      have HB3 := Aside0.mk (below_then HB.out HB.out.size hd3.below)
      clear hd3 cx0 t1 t2 t3 t4
      go_cut [9] (fun v9 wc => ∃ f : Nat, v9 = .int .i64 (f : Int) ∧ Aside0 (f ≤ l1.length) ∧ wc = w3)
      case first =>
        by_cases hz : 0 < l1.length
        · have z1 := decide_eq_true (show (0 : Int) < (l1.length : Int) by omega)
          have z2 := decide_eq_true hz
          have z3 : ¬ ((l1.length : Int) = 0) := by omega
          have HZ : Aside0 (n % l1.length ≤ l1.length) := ⟨Nat.le_of_lt (Nat.mod_lt _ hz)⟩
          go_wp2
          go_meet
          case rel => exact ⟨n % l1.length, by first | rfl | (simp; done), HZ, rfl⟩
        · have hz2 : l1.length = 0 := by omega
          have z1 := decide_eq_false (show ¬ (0 : Int) < (l1.length : Int) by omega)
          have z2 := decide_eq_false hz
          clear hz2
          go_wp2
          go_meet
          case rel => exact ⟨0, by first | rfl | (simp; done), ⟨Nat.zero_le _⟩, rfl⟩
      case rest =>
        obtain ⟨f, rfl, Hf, rfl⟩ := hcut
        obtain ⟨ps, hps⟩ : ∃ ps, ps = pairsE (l1.drop f) (((n / 50 % 4 : Nat) : Int)) := ⟨_, rfl⟩
        obtain ⟨kp, hkp⟩ := Ev.rounds (ev_pairsE (l1.drop f) (((n / 50 % 4 : Nat) : Int)) (by omega))
        have hpl : (pairsE (l1.drop f) (((n / 50 % 4 : Nat) : Int))).length ≤ 3 := Nat.le_trans (pairsE_len _ _) (by omega)
        have ecast : (((n / 50 % 4 : Nat) : Int)) = (n : Int) / 50 % 4 := by omega
        rw [ecast] at hkp hpl hps
        rw [← hps] at hkp hpl
        have HK := And.intro hkp hpl
        have n0 : 0 ≤ (n : Int) := by omega
        have n1 : (n : Int) < 1073741824 := by have := HN.out; omega
        have f0 : (0 : Int) ≤ (f : Int) := by omega
        have f1 : (f : Int) ≤ (l1.length : Int) := by have := Hf.out; omega
        obtain ⟨i1, hi1, _, hsz1, _⟩ := info_parts infoInt
        have hcut1 := cut_from (P := Try.prog) 22 3 .i64 Try.underlying22 hi1 1 hsz1 A1 l1.length c1 f f0 f1
        rw [Int.toNat_natCast] at hcut1
        have hC1 := cut_ints (Kd.C_below HR.out.2.2.1 HB3.out) f Hf.out HR.out.2.2.2
        obtain ⟨A2, hA2⟩ : ∃ A, A = (if c1 = f then A1 else A1.map (·.add (f * 1))) := ⟨_, rfl⟩
        rw [← hA2] at hcut1 hC1
        rw [← List.length_drop] at hcut1 hC1
        have hcc : (l1.drop f).length ≤ c1 - f := by rw [List.length_drop]; have := HR.out.2.2.2; omega
        generalize l1.drop f = ms at hcut1 hC1 hcc HK hps
        have HK := Aside0.mk HK
        have hr3 : onceC cmpPair ps = onceC cmpPair ps := rfl
        obtain ⟨r, hr⟩ : ∃ r, r = onceC cmpPair ps := ⟨_, rfl⟩
        have HRL : Aside0 (r.length ≤ 3) := ⟨by rw [hr]; exact Nat.le_trans (once_len totalPair ps) hpl⟩
        obtain ⟨ka, hka⟩ := Ev.rounds (ev_Pairs ps (by omega))
        obtain ⟨kc, hkc⟩ := Ev.rounds (ev_Same r r (by rw [hr]; have := once_len totalPair ps; omega))
        rw [decide_eq_true rfl] at hkc
        rw [← hr] at hka
        have HKA := Aside0.mk (And.intro hka hkc)
        have HRE := Aside0.mk hr.symm
        have HC1 := Aside0.mk hC1
        have HCC := Aside0.mk hcc
        clear hps hkp hpl ecast hi1 hsz1 hA2 hC1 hcc hr3 hr hka hkc
        go_wp2_with fail
        refine (canopylaw2_Pairs.calls kp A2 (c1 - f) ms _ ps _ HC1.out HCC.out HK.out.1).mono ?_
        rintro e w4 ⟨v4, rfl, ho4, hb4⟩
        obtain ⟨Ap, cp, rfl⟩ := Kd.R_slice ho4
        have HP4 := Aside0.mk (Kd.R_mono (Kd.R_bound ho4) (fun k hk => (⟨hk.2.1, hk.2.2.1⟩ : wc.heap.size ≤ k ∧ k < w4.heap.size)))
        have HT4 := Aside0.mk (HT3.out.below hb4)
        have HDp : Aside0 (∀ k, (wc.heap.size ≤ k ∧ k < w4.heap.size) → ¬ ft k) := ⟨fun k hk hf => by have := HT3.out.lt_ k hf; omega⟩
        have HB4 := Aside0.mk (below_then HB3.out HB3.out.size hb4)
        clear ho4 hb4 HT3 HB3 HC1 hcut1
        go_wp2_with fail
        refine (Find_calls ga ft rows Ap cp ps _ HT4.out (Kd.R_reads' HP4.out).2.2 (Kd.R_reads' HP4.out).2.1 (by have := HK.out; omega) (by omega)).mono ?_
        rintro e w5 ⟨rfl, hb5⟩
        rw [HRE.out]
        have HT5 := Aside0.mk (HT4.out.below hb5)
        have HP5 := Aside0.mk (Kd.R_below HP4.out hb5)
        have HB5 := Aside0.mk (below_then HB4.out HB4.out.size hb5)
        have HZ5 : Aside0 (w4.heap.size ≤ w5.heap.size) := ⟨hb5.size⟩
        clear hb5 HT4 HP4 HB4
        by_cases hin : r ∈ rows
        · have hil := List.idxOf_lt_length_of_mem hin
          have hrw := rowR_idx hin
          have hpi : putI rows r = (rows.idxOf r : Int) := if_pos hin
          have hpr : putR rows r = rows := if_pos hin
          rw [if_pos hin, decide_eq_true hin]
          have HPD : Aside0 (decide (r ∉ rows) = false) := ⟨by simp [hin]⟩
          generalize rows.idxOf r = at_ at hil hrw hpi ⊢
          have HPI := Aside0.mk (And.intro hpi (And.intro hpr hrw))
          have a1 : (at_ : Int) < (rows.length : Int) := by omega
          have a2 := eq_false (show ¬ (at_ : Int) < 0 by omega)
          have a3 := decide_eq_false (show ¬ (at_ : Int) < 0 by omega)
          have a4 := eq_false (show ¬ (rows.length : Int) < (at_ : Int) by omega)
          have a5 := decide_eq_false (show ¬ (rows.length : Int) < (at_ : Int) by omega)
          have a6 := decide_eq_false (show ¬ rows.length < at_ by omega)
          clear hin hil hrw hpi hpr
          go_wp2_with fail
          refine (put_calls ga ft rows Ap cp ps _ HT5.out (Kd.R_reads' HP5.out).2.2 (Kd.R_reads' HP5.out).2.1 (by have := HK.out; omega) (by omega)).mono ?_
          rintro e w6 ⟨rfl, ft6, ht6, hi6, hj6, hf6⟩
          rw [HRE.out, HPI.out.2.1] at ht6
          rw [HRE.out, HPI.out.1, HPD.out]
          have HT6 := Aside0.mk ht6
          have HP6 := Aside0.mk (Kd.R_step HP5.out (fun k hk hlt => hf6.kept.2 k hlt (HDp.out k hk)))
          have HS6 : Aside0 (∀ k, ft6 k → w.heap.size ≤ k) := ⟨fun k hk => (hj6 k hk).elim (HS.out k) (fun h => Nat.le_trans HB5.out.size h)⟩
          have HB6 : Aside0 (Below w.heap.size w w6) := ⟨HB5.out.trans (hf6.base HB5.out.size HS.out)⟩
          clear ht6 hi6 hj6 hf6 HT5 HP5 HB5
          go_wp2_with fail
          refine (row_calls ga ft6 rows (at_ : Int) _ HT6.out).mono ?_
          rintro e w7 ⟨v7, rfl, ho7, hb7⟩
          rw [HPI.out.2.2] at ho7
          have hR7 := pairs_R ho7
          obtain ⟨A7, c7, rfl⟩ := Kd.R_slice hR7
          have HR7 := Aside0.mk hR7
          have HT7 := Aside0.mk (HT6.out.below hb7)
          have HP7 := Aside0.mk (Kd.R_below HP6.out hb7)
          have HB7 := Aside0.mk (below_then HB6.out HB6.out.size hb7)
          clear ho7 hR7 hb7 HT6 HP6 HB6
          go_wp2_with fail
          refine (canopyref2_Pairs.calls ka Ap cp ps r _ (Kd.R_reads' HP7.out).2.2 (Kd.R_reads' HP7.out).2.1 HKA.out.1).mono ?_
          rintro e w8 ⟨v8, rfl, ho8, hb8⟩
          obtain ⟨A8, c8, rfl⟩ := Kd.R_slice ho8
          have HR8 := Aside0.mk (Kd.R_below HR7.out hb8)
          have HS8 := Aside0.mk ho8
          have HT8 := Aside0.mk (HT7.out.below hb8)
          have HB8 := Aside0.mk (below_then HB7.out HB7.out.size hb8)
          clear ho8 hb8 HT7 HP7 HB7 HR7
          go_wp2_with fail
          refine (canopyref2_Same.calls kc A7 c7 r A8 c8 r true _ (Kd.R_reads' HR8.out).2.2 (Kd.R_reads' HR8.out).2.1 (Kd.R_reads' HS8.out).2.2 (Kd.R_reads' HS8.out).2.1 HKA.out.2).mono ?_
          rintro e w9 ⟨rfl, hd9⟩
          have HT9 := Aside0.mk (HT8.out.below hd9.below)
          have HB9 := Aside0.mk (below_then HB8.out HB8.out.size hd9.below)
          clear hd9 HT8 HB8 HR8 HS8
          go_wp2_with fail
          refine (len_calls ga ft6 rows _ HT9.out).mono ?_
          rintro e w10 ⟨rfl, rfl⟩
          clear a1 a2 a3 a4 a5 a6
          go_wp2
          go_roundg (l0.length - (i + 1))
          case measure => have := Hi.out; have := HLT.out; omega
          case rel => exact ⟨i + 1, rows, ft6, rfl, by rw [show wrap64 ((i : Int) + 1) = ((i + 1 : Nat) : Int) by have := HLT.out; have := HM.out; unfold wrap64; omega], ⟨by have := HLT.out; omega, Nat.le_refl _, by have := HLT.out; omega, by have := Hi.out; omega⟩, HT9, HS6, HB9⟩
        · have hpi : putI rows r = (rows.length : Int) := if_neg hin
          have hpr : putR rows r = rows ++ [r] := if_neg hin
          have hrl := rowR_last rows r
          rw [if_neg hin, decide_eq_false hin]
          have HPD : Aside0 (decide (r ∉ rows) = true) := ⟨by simp [hin]⟩
          obtain ⟨rows2, hrows2⟩ : ∃ q, q = rows ++ [r] := ⟨_, rfl⟩
          have HL2 : Aside0 (rows2.length = rows.length + 1) := ⟨by rw [hrows2]; simp⟩
          rw [← hrows2] at hpr hrl
          have HPI := Aside0.mk (And.intro hpi (And.intro hpr hrl))
          clear hin hpi hpr hrl hrows2
          go_wp2_with fail
          refine (put_calls ga ft rows Ap cp ps _ HT5.out (Kd.R_reads' HP5.out).2.2 (Kd.R_reads' HP5.out).2.1 (by have := HK.out; omega) (by omega)).mono ?_
          rintro e w6 ⟨rfl, ft6, ht6, hi6, hj6, hf6⟩
          rw [HRE.out, HPI.out.2.1] at ht6
          rw [HRE.out, HPI.out.1, HPD.out]
          have HT6 := Aside0.mk ht6
          have HP6 := Aside0.mk (Kd.R_step HP5.out (fun k hk hlt => hf6.kept.2 k hlt (HDp.out k hk)))
          have HS6 : Aside0 (∀ k, ft6 k → w.heap.size ≤ k) := ⟨fun k hk => (hj6 k hk).elim (HS.out k) (fun h => Nat.le_trans HB5.out.size h)⟩
          have HB6 : Aside0 (Below w.heap.size w w6) := ⟨HB5.out.trans (hf6.base HB5.out.size HS.out)⟩
          have b1 := eq_false (show ¬ (rows.length : Int) < 0 by omega)
          have b2 := decide_eq_false (show ¬ (rows.length : Int) < 0 by omega)
          clear ht6 hi6 hj6 hf6 HT5 HP5 HB5
          go_wp2_with fail
          refine (row_calls ga ft6 rows2 (rows.length : Int) _ HT6.out).mono ?_
          rintro e w7 ⟨v7, rfl, ho7, hb7⟩
          rw [HPI.out.2.2] at ho7
          have hR7 := pairs_R ho7
          obtain ⟨A7, c7, rfl⟩ := Kd.R_slice hR7
          have HR7 := Aside0.mk hR7
          have HT7 := Aside0.mk (HT6.out.below hb7)
          have HP7 := Aside0.mk (Kd.R_below HP6.out hb7)
          have HB7 := Aside0.mk (below_then HB6.out HB6.out.size hb7)
          clear ho7 hR7 hb7 HT6 HP6 HB6
          go_wp2_with fail
          refine (canopyref2_Pairs.calls ka Ap cp ps r _ (Kd.R_reads' HP7.out).2.2 (Kd.R_reads' HP7.out).2.1 HKA.out.1).mono ?_
          rintro e w8 ⟨v8, rfl, ho8, hb8⟩
          obtain ⟨A8, c8, rfl⟩ := Kd.R_slice ho8
          have HR8 := Aside0.mk (Kd.R_below HR7.out hb8)
          have HS8 := Aside0.mk ho8
          have HT8 := Aside0.mk (HT7.out.below hb8)
          have HB8 := Aside0.mk (below_then HB7.out HB7.out.size hb8)
          clear ho8 hb8 HT7 HP7 HB7 HR7
          go_wp2_with fail
          refine (canopyref2_Same.calls kc A7 c7 r A8 c8 r true _ (Kd.R_reads' HR8.out).2.2 (Kd.R_reads' HR8.out).2.1 (Kd.R_reads' HS8.out).2.2 (Kd.R_reads' HS8.out).2.1 HKA.out.2).mono ?_
          rintro e w9 ⟨rfl, hd9⟩
          have HT9 := Aside0.mk (HT8.out.below hd9.below)
          have HB9 := Aside0.mk (below_then HB8.out HB8.out.size hd9.below)
          clear hd9 HT8 HB8 HR8 HS8
          go_wp2_with fail
          refine (len_calls ga ft6 rows2 _ HT9.out).mono ?_
          rintro e w10 ⟨rfl, rfl⟩
          rw [HL2.out]
          have b3 : (((rows.length + 1 : Nat) : Int)) = (rows.length : Int) + 1 := by omega
          rw [b3]
          clear b3
          go_wp2
          go_roundg (l0.length - (i + 1))
          case measure => have := Hi.out; have := HLT.out; omega
          case rel => exact ⟨i + 1, rows2, ft6, by rw [HL2.out]; rfl, by rw [show wrap64 ((i : Int) + 1) = ((i + 1 : Nat) : Int) by have := HLT.out; have := HM.out; unfold wrap64; omega], ⟨by have := HLT.out; omega, Nat.le_refl _, by have := HLT.out; omega, by have := Hi.out; have := HL2.out; omega⟩, HT9, HS6, HB9⟩
    · have t1 : decide (i < l0.length) = true ∧ decide ((i : Int) < 30) = false ∨ decide (i < l0.length) = false := by
        by_cases h : i < l0.length
        · exact .inl ⟨decide_eq_true h, decide_eq_false (by omega)⟩
        · exact .inr (decide_eq_false h)
      have hz1 := rowR_out (rows := rows) (i := (rows.length : Int)) (.inr (Int.le_refl _))
      have hz2 := rowR_out (rows := rows) (i := -1) (.inl (by omega))
      have HZ := Aside0.mk (And.intro hz1 hz2)
      clear hz1 hz2 hlt
      rcases t1 with ⟨t1, t2⟩ | t1
      all_goals
        go_wp2_with fail
        refine (row_calls ga ft rows (rows.length : Int) _ HT.out).mono ?_
        rintro e w7 ⟨v7, rfl, ho7, hb7⟩
        rw [HZ.out.1] at ho7
        obtain ⟨A7, c7, rfl⟩ := Kd.R_slice (pairs_R ho7)
        have HT7 := Aside0.mk (HT.out.below hb7)
        have HB7 := Aside0.mk (below_then HB.out HB.out.size hb7)
        clear ho7 hb7
        go_wp2_with fail
        refine (row_calls ga ft rows (-1) _ HT7.out).mono ?_
        rintro e w8 ⟨v8, rfl, ho8, hb8⟩
        rw [HZ.out.2] at ho8
        obtain ⟨A8, c8, rfl⟩ := Kd.R_slice (pairs_R ho8)
        have HB8 := Aside0.mk (below_then HB7.out HB7.out.size hb8)
        clear ho8 hb8
        go_wp2
        go_ret
        exact ⟨rfl, HB8.out⟩
theorem canopylaw2_SetsNumbers.walk (P : canopylaw2_SetsNumbers.Pure) (a0 : Option Addr) (len0 cap0 : Nat) (z0 : List Int) (a1 : Option Addr) (len1 cap1 : Nat) (z1 : List Int) (w : World) (w0 : (a0 = none ∧ len0 = 0 ∧ cap0 = 0 ∧ z0 = []) ∨ ∃ x, a0 = some x ∧ len0 ≤ cap0 ∧ cap0 ≤ maxLen ∧ z0.length = cap0 ∧ (∀ i, i < z0.length → w.cell? (x.add i) = some (.int .i64 (z0.getD i 0))) ∧ ∀ n ∈ z0, (Lit.int .i64 n).wf = true) (y0 : len0 * 8 ≤ 140737488351232) (w1 : (a1 = none ∧ len1 = 0 ∧ cap1 = 0 ∧ z1 = []) ∨ ∃ x, a1 = some x ∧ len1 ≤ cap1 ∧ cap1 ≤ maxLen ∧ z1.length = cap1 ∧ (∀ i, i < z1.length → w.cell? (x.add i) = some (.int .i64 (z1.getD i 0))) ∧ ∀ n ∈ z1, (Lit.int .i64 n).wf = true) (y1 : len1 * 8 ≤ 140737488351232) :
    Calls Try.prog 9 #[.slice a0 len0 cap0, .slice a1 len1 cap1] w fun e w' => e = .returned (.bool true) ∧ Below w.heap.size w w' := by
  obtain ⟨l0, rfl, hr0, hm0, hw0, hc0⟩ := ReadsInt.ofRowC w0
  obtain ⟨l1, rfl, hr1, hm1, hw1, hc1⟩ := ReadsInt.ofRowC w1
  exact canopylaw2_SetsNumbers.calls _ _ l0 _ _ l1 w (Kd.C_of_reads (d := (0 : Int)) (h1 := fun _ => rfl) hr0) hc0 (Kd.C_of_reads (d := (0 : Int)) (h1 := fun _ => rfl) hr1) hc1 (by omega) (by omega)
end Go.Proofs.Ytmkpfamngedcmaa.P
