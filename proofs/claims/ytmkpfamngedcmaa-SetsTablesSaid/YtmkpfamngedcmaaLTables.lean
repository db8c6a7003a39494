/- SetsTables, walked by hand: a table answers as the document's. -/
import Derived.Test.YtmkpfamngedcmaaLNumbers
import Derived.Test.YtmkpfamngedcmaaSRefTab
set_option linter.unusedVariables false
set_option linter.unusedSimpArgs false
set_option linter.unnecessarySimpa false
namespace Go.Proofs.Ytmkpfamngedcmaa.P
open Go.RowKit Go.Proofs.YtmkpfamngedcmaaW.PrintWords Go.Proofs.YtmkpfamngedcmaaW.PrintLast Go.Proofs.YtmkpfamngedcmaaW.PrintMore Go.Proofs.Ytmkpfamngedcmaa.M Go.Proofs.Ytmkpfamngedcmaa.Pure

theorem rowR_len {rows : List (List TPair)} {n : Nat} (h : ∀ r ∈ rows, r.length ≤ n) (i : Int) : (rowR rows i).length ≤ n := by
  unfold rowR
  split
  · rename_i hi
    rw [List.getD_eq_getElem?_getD, List.getElem?_eq_getElem (show i.toNat < rows.length by omega)]
    exact h _ (List.getElem_mem _)
  · exact Nat.zero_le _
theorem putR_len (rows : List (List TPair)) (r : List TPair) : (putR rows r).length ≤ rows.length + 1 := by unfold putR; split <;> simp
theorem putR_all {rows : List (List TPair)} {r : List TPair} {n : Nat} (h : ∀ r ∈ rows, r.length ≤ n) (hr : r.length ≤ n) : ∀ q ∈ putR rows r, q.length ≤ n := by
  unfold putR
  split
  · exact h
  · intro q hq
    rcases List.mem_append.1 hq with h1 | h1
    · exact h q h1
    · rw [List.mem_singleton.1 h1]; exact hr
def canopylaw2_SetsTables.Pure : Prop := True
set_option maxHeartbeats 16000000 in
set_option maxRecDepth 100000 in
theorem canopylaw2_SetsTables.calls (A0 : Option Addr) (c0 : Nat) (l0 : List Int) (A1 : Option Addr) (c1 : Nat) (l1 : List Int) (w : World) (hr0 : Kd.C (Kd.int .i64) w A0 l0.length l0) (hc0 : l0.length ≤ c0) (hr1 : Kd.C (Kd.int .i64) w A1 l1.length l1) (hc1 : l1.length ≤ c1) (hm0 : l0.length ≤ 17592186044416) (hm1 : l1.length ≤ 17592186044416) :
    Calls Try.prog 7 #[.slice A0 l0.length c0, .slice A1 l1.length c1] w fun e w' => e = .returned (.bool true) ∧ Below w.heap.size w w' := by
  have HR := Aside0.mk (And.intro hr0 (And.intro hc0 (And.intro hr1 hc1)))
  have HM := Aside0.mk (And.intro hm0 hm1)
  clear hr0 hc0 hr1 hc1 hm0 hm1
  go_enter Try.func7, Try.ntmps7
  go_wp2_with fail
  refine (canopylaw2_known.calls true _ rfl).mono ?_
  rintro e w1 ⟨rfl, hb1⟩
  have HB1 := Aside0.mk hb1
  clear hb1
  go_wp2_with fail
  refine (new_calls _).mono ?_
  rintro e w2 ⟨ga, fa, rfl, ht2, hs2, hb2⟩
  have HT2 := Aside0.mk ht2
  have HS2 : Aside0 (∀ k, fa k → w.heap.size ≤ k) := ⟨fun k hk => Nat.le_trans HB1.out.size (hs2 k hk)⟩
  have HB2 := Aside0.mk (below_then HB1.out HB1.out.size hb2)
  clear ht2 hs2 hb2
  go_wp2_with fail
  refine (rnew_calls _).mono ?_
  rintro e w3 ⟨gx, fx, rfl, ht3, hs3, hb3⟩
  have HX3 := Aside0.mk ht3
  have HT3 := Aside0.mk (HT2.out.below hb3)
  have HSX3 : Aside0 (∀ k, fx k → w.heap.size ≤ k) := ⟨fun k hk => Nat.le_trans HB2.out.size (hs3 k hk)⟩
  have HD3 : Aside0 (∀ k, fx k → ¬ fa k) := ⟨fun k hk hf => by have := hs3 k hk; have := HT2.out.lt_ k hf; omega⟩
  have HB3 := Aside0.mk (below_then HB2.out HB2.out.size hb3)
  clear ht3 hs3 hb3
  go_wp2
  go_loopg [7] l0.length (fun gq v7 w' => ∃ (i : Nat) (rows : List (List TPair)) (ft fr : Nat → Prop), v7 = .int .i64 (i : Int) ∧ Aside0 (i ≤ l0.length ∧ l0.length - i ≤ gq ∧ i ≤ 40 ∧ rows.length ≤ i) ∧ Aside0 (∀ r ∈ rows, r.length ≤ 3) ∧ Aside0 (Tab w' ga ft rows) ∧ Aside0 (RTab w' gx fr rows) ∧ Aside0 (∀ k, ft k → w.heap.size ≤ k) ∧ Aside0 (∀ k, fr k → w.heap.size ≤ k) ∧ Aside0 (∀ k, fr k → ¬ ft k) ∧ Aside0 (Below w.heap.size w w'))
  case atStart => exact ⟨0, [], fa, fx, rfl, ⟨by omega, by omega, by omega, by simp⟩, ⟨by simp⟩, HT3, HX3, HS2, HSX3, HD3, HB3⟩
  case round =>
    clear HT2 HS2 HB2 HB1 HX3 HT3 HSX3 HD3 HB3
    obtain ⟨i, rows, ft, fr, rfl, Hi, Hrl, HT, HX, HS, HSX, HD, HB⟩ := hrel
    obtain ⟨wo, rfl⟩ : ∃ wo : World, wo = wr := ⟨_, rfl⟩
    have m1 : (rows.length : Int) ≤ 40 := by have := Hi.out; omega
    by_cases hlt : i < l0.length ∧ i < 40
    · have HLT := Aside0.mk hlt
      obtain ⟨ad0, e0, cx0⟩ := int_at (Kd.C_below HR.out.1 HB.out) i hlt.1
      generalize l0[i] = x at cx0
      have t1 := eq_true hlt.1
      have t2 := decide_eq_true hlt.1
      have t3 := eq_true (show (i : Int) < 40 by omega)
      have t4 := decide_eq_true (show (i : Int) < 40 by omega)
      subst e0
      obtain ⟨n, hn0, hn1, hw⟩ : ∃ n : Nat, 0 ≤ n ∧ n < 1073741824 ∧ canopylaw2_within.f x 1073741824 = some (n : Int) := by
        refine ⟨(x % 1073741824).toNat, by omega, ?_, ?_⟩
        · have := Int.emod_lt_of_pos x (show (0 : Int) < 1073741824 by decide)
          have := Int.emod_nonneg x (show (1073741824 : Int) ≠ 0 by decide)
          omega
        · rw [withinE (by omega) (by omega), Int.toNat_of_nonneg (Int.emod_nonneg x (by decide))]
      have HW := Aside0.mk hw
      have HN := Aside0.mk (And.intro hn0 hn1)
      have n0 : 0 ≤ (n : Int) := by omega
      clear hlt hw hn0 hn1
      go_upto_if 43 with (first | (go_at_call 14; go_loud (refine (canopylaw2_within.calls x 1073741824 (n : Int) _ HW.out).mono ?_; rintro e w3 ⟨rfl, hd3⟩)))
      have HT3 := Aside0.mk (HT.out.below hd3.below)
      have HX3 := Aside0.mk (HX.out.below hd3.below)
      have HB3 := Aside0.mk (below_then HB.out HB.out.size hd3.below)
      clear hd3 cx0 t1 t2 t3 t4
      go_cut [9] (fun v9 wc => ∃ f : Nat, v9 = .int .i64 (f : Int) ∧ Aside0 (f ≤ l1.length) ∧ wc = w3)
      case first =>
        by_cases hz : 0 < l1.length
        · have z1 := decide_eq_true (show (0 : Int) < (l1.length : Int) by omega)
          have z2 := decide_eq_true hz
          have z3 : ¬ ((l1.length : Int) = 0) := by omega
          have HE : Aside0 ((wrap64 ((n : Int) / 8)).tmod (l1.length : Int) = ((n / 8 % l1.length : Nat) : Int)) := ⟨by
            rw [show wrap64 ((n : Int) / 8) = ((n / 8 : Nat) : Int) by have := HN.out; unfold wrap64; omega]
            rfl⟩
          have HZ : Aside0 (n / 8 % l1.length ≤ l1.length) := ⟨Nat.le_of_lt (Nat.mod_lt _ hz)⟩
          go_wp2
          go_meet
          case rel => exact ⟨n / 8 % l1.length, by rw [HE.out], HZ, rfl⟩
        · have hz2 : l1.length = 0 := by omega
          have z1 := decide_eq_false (show ¬ (0 : Int) < (l1.length : Int) by omega)
          have z2 := decide_eq_false hz
          clear hz2
          go_wp2
          go_meet
          case rel => exact ⟨0, by first | rfl | (simp; done), ⟨Nat.zero_le _⟩, rfl⟩
      case rest =>
        obtain ⟨f, rfl, Hf, rfl⟩ := hcut
        obtain ⟨ps, hps⟩ : ∃ ps, ps = pairsE (l1.drop f) (((n % 4 : Nat) : Int)) := ⟨_, rfl⟩
        obtain ⟨kp, hkp⟩ := Ev.rounds (ev_pairsE (l1.drop f) (((n % 4 : Nat) : Int)) (by omega))
        have hpl : (pairsE (l1.drop f) (((n % 4 : Nat) : Int))).length ≤ 3 := Nat.le_trans (pairsE_len _ _) (by omega)
        have ecast : (((n % 4 : Nat) : Int)) = (n : Int) % 4 := by omega
        rw [ecast] at hkp hpl hps
        rw [← hps] at hkp hpl
        have HK := And.intro hkp hpl
        have n1 : (n : Int) < 1073741824 := by have := HN.out; omega
        have f0 : (0 : Int) ≤ (f : Int) := by omega
        have f1 : (f : Int) ≤ (l1.length : Int) := by have := Hf.out; omega
        obtain ⟨i1, hi1, _, hsz1, _⟩ := info_parts infoInt
        have hcut1 := cut_from (P := Try.prog) 22 3 .i64 Try.underlying22 hi1 1 hsz1 A1 l1.length c1 f f0 f1
        rw [Int.toNat_natCast] at hcut1
        have hC1 := cut_ints (Kd.C_below HR.out.2.2.1 HB3.out) f Hf.out HR.out.2.2.2
        obtain ⟨A2, hA2⟩ : ∃ A, A = (if c1 = f then A1 else A1.map (·.add (f * 1))) := ⟨_, rfl⟩
        rw [← hA2] at hcut1 hC1
        rw [← List.length_drop] at hcut1 hC1
        have hcc : (l1.drop f).length ≤ c1 - f := by rw [List.length_drop]; have := HR.out.2.2.2; omega
        generalize l1.drop f = ms at hcut1 hC1 hcc HK hps
        have HK := Aside0.mk HK
        obtain ⟨r, hr⟩ : ∃ r, r = onceC cmpPair ps := ⟨_, rfl⟩
        have HRL : Aside0 (r.length ≤ 3) := ⟨by rw [hr]; exact Nat.le_trans (once_len totalPair ps) hpl⟩
        have HRE := Aside0.mk hr.symm
        have HC1 := Aside0.mk hC1
        have HCC := Aside0.mk hcc
        clear hps hkp hpl ecast hi1 hsz1 hA2 hC1 hcc hr
        go_wp2_with fail
        refine (canopylaw2_Pairs.calls kp A2 (c1 - f) ms _ ps _ HC1.out HCC.out HK.out.1).mono ?_
        rintro e w4 ⟨v4, rfl, ho4, hb4⟩
        obtain ⟨Ap, cp, rfl⟩ := Kd.R_slice ho4
        have HP4 := Aside0.mk (Kd.R_mono (Kd.R_bound ho4) (fun k hk => (⟨hk.2.1, hk.2.2.1⟩ : wc.heap.size ≤ k ∧ k < w4.heap.size)))
        have HT4 := Aside0.mk (HT3.out.below hb4)
        have HX4 := Aside0.mk (HX3.out.below hb4)
        have HDp : Aside0 (∀ k, (wc.heap.size ≤ k ∧ k < w4.heap.size) → ¬ ft k) := ⟨fun k hk hf => by have := HT3.out.lt_ k hf; omega⟩
        have HDx : Aside0 (∀ k, (wc.heap.size ≤ k ∧ k < w4.heap.size) → ¬ fr k) := ⟨fun k hk hf => by have := HX3.out.lt_ k hf; omega⟩
        have HB4 := Aside0.mk (below_then HB3.out HB3.out.size hb4)
        clear ho4 hb4 HT3 HX3 HB3 HC1 hcut1
        by_cases hkind : n / 4 % 2 = 0
        · have k1 : ((n : Int) / 4 % 2 == 0) = true := by rw [beq_iff_eq]; omega
          have k2 : ((n : Int) / 4 % 2) = 0 := by omega
          have HK2 := Aside0.mk k2
          clear k2
          obtain ⟨iV, hiV⟩ : ∃ iV, iV = putI rows r := ⟨_, rfl⟩
          obtain ⟨bV, hbV⟩ : ∃ bV, bV = decide (r ∉ rows) := ⟨_, rfl⟩
          obtain ⟨rows2, hrows2⟩ : ∃ q, q = putR rows r := ⟨_, rfl⟩
          have HL2 : Aside0 (rows2.length ≤ rows.length + 1) := ⟨by rw [hrows2]; exact putR_len _ _⟩
          have HA2 : Aside0 (∀ q ∈ rows2, q.length ≤ 3) := ⟨by rw [hrows2]; exact putR_all Hrl.out HRL.out⟩
          have HPI := Aside0.mk (And.intro hiV.symm (And.intro hbV.symm hrows2.symm))
          clear hiV hbV hrows2 hkind
          go_wp2_with fail
          refine (put_calls ga ft rows Ap cp ps _ HT4.out (Kd.R_reads' HP4.out).2.2 (Kd.R_reads' HP4.out).2.1 (by have := HK.out; omega) (by omega)).mono ?_
          rintro e w5 ⟨rfl, ft5, ht5, hi5, hj5, hf5⟩
          rw [HRE.out, HPI.out.2.2] at ht5
          rw [HRE.out, HPI.out.1, HPI.out.2.1]
          have HT5 := Aside0.mk ht5
          have HX5 := Aside0.mk (HX4.out.apart hf5 HD.out)
          have HD5 : Aside0 (∀ k, fr k → ¬ ft5 k) := ⟨dis_step HD.out HX4.out.lt_ hj5⟩
          have HP5 := Aside0.mk (Kd.R_step HP4.out (fun k hk hlt => hf5.kept.2 k hlt (HDp.out k hk)))
          have HS5 : Aside0 (∀ k, ft5 k → w.heap.size ≤ k) := ⟨fun k hk => (hj5 k hk).elim (HS.out k) (fun h => Nat.le_trans HB4.out.size h)⟩
          have HB5 : Aside0 (Below w.heap.size w w5) := ⟨HB4.out.trans (hf5.base HB4.out.size HS.out)⟩
          clear ht5 hi5 hj5 hf5 HT4 HX4 HP4 HB4
          go_wp2_with fail
          refine (rput_calls gx fr rows Ap cp ps _ HX5.out (Kd.R_reads' HP5.out).2.2 (Kd.R_reads' HP5.out).2.1 (by have := HK.out; omega) (by omega)).mono ?_
          rintro e w6 ⟨rfl, fr6, ht6, hj6, hf6⟩
          rw [HRE.out, HPI.out.2.2] at ht6
          rw [HRE.out, HPI.out.1, HPI.out.2.1]
          have HX_ := Aside0.mk ht6
          have HT_ := Aside0.mk (HT5.out.apart hf6 (fun k hk hf => HD5.out k hf hk))
          have HD6 : Aside0 (∀ k, fr6 k → ¬ ft5 k) := ⟨fun k hk hf => dis_step (fun k h1 h2 => HD5.out k h2 h1) HT5.out.lt_ hj6 k hf hk⟩
          have HSX6 : Aside0 (∀ k, fr6 k → w.heap.size ≤ k) := ⟨fun k hk => (hj6 k hk).elim (HSX.out k) (fun h => Nat.le_trans HB5.out.size h)⟩
          have HB_ : Aside0 (Below w.heap.size w w6) := ⟨HB5.out.trans (hf6.base HB5.out.size HSX.out)⟩
          clear ht6 hj6 hf6 HT5 HX5 HP5 HB5
          obtain ⟨jr, hjr⟩ : ∃ jr : Int, jr = (n : Int) % 7 - 1 := ⟨_, rfl⟩
          obtain ⟨q, hq⟩ : ∃ q, q = rowR rows2 ((n : Int) % 7 - 1) := ⟨_, rfl⟩
          have hql : q.length ≤ 3 := by rw [hq]; exact rowR_len HA2.out _
          obtain ⟨kc, hkc⟩ := Ev.rounds (ev_Same q q (by omega))
          rw [decide_eq_true rfl] at hkc
          have HKC := Aside0.mk hkc
          have HQ := Aside0.mk hq.symm
          clear hkc hq hql hjr jr
          go_wp2_with fail
          refine (len_calls ga ft5 rows2 _ HT_.out).mono ?_
          rintro e w7 ⟨rfl, rfl⟩
          go_wp2_with fail
          refine (rlen_calls gx fr6 rows2 _ HX_.out).mono ?_
          rintro e w7 ⟨rfl, rfl⟩
          go_wp2_with fail
          refine (row_calls ga ft5 rows2 ((n : Int) % 7 - 1) _ HT_.out).mono ?_
          rintro e w7 ⟨v7, rfl, ho7, hb7⟩
          rw [HQ.out] at ho7
          obtain ⟨A7, c7, rfl⟩ := Kd.R_slice (pairs_R ho7)
          have HT_101 := Aside0.mk (HT_.out.below hb7)
          have HX_102 := Aside0.mk (HX_.out.below hb7)
          have HB_103 := Aside0.mk (below_then HB_.out HB_.out.size hb7)
          clear HT_ HX_ HB_
          have Hr7_104 := Aside0.mk (pairs_R ho7)
          clear ho7 hb7
          go_wp2_with fail
          refine (rrow_calls gx fr6 rows2 ((n : Int) % 7 - 1) _ HX_102.out).mono ?_
          rintro e w8 ⟨v8, rfl, ho8, hb8⟩
          rw [HQ.out] at ho8
          obtain ⟨A8, c8, rfl⟩ := Kd.R_slice ho8
          have HT_105 := Aside0.mk (HT_101.out.below hb8)
          have HX_106 := Aside0.mk (HX_102.out.below hb8)
          have HB_107 := Aside0.mk (below_then HB_103.out HB_103.out.size hb8)
          have Hr7_108 := Aside0.mk (Kd.R_below Hr7_104.out hb8)
          clear HT_101 HX_102 HB_103 Hr7_104
          have Hr8_109 := Aside0.mk (ho8)
          clear ho8 hb8
          go_wp2_with fail
          refine (canopyref2_Same.calls kc A7 c7 q A8 c8 q true _ (Kd.R_reads' Hr7_108.out).2.2 (Kd.R_reads' Hr7_108.out).2.1 (Kd.R_reads' Hr8_109.out).2.2 (Kd.R_reads' Hr8_109.out).2.1 HKC.out).mono ?_
          rintro e w9 ⟨rfl, hd9⟩
          have HT_110 := Aside0.mk (HT_105.out.below hd9.below)
          have HX_111 := Aside0.mk (HX_106.out.below hd9.below)
          have HB_112 := Aside0.mk (below_then HB_107.out HB_107.out.size hd9.below)
          clear HT_105 HX_106 HB_107
          clear hd9
          go_wp2
          go_roundg (l0.length - (i + 1))
          case measure => have := Hi.out; have := HLT.out; omega
          case rel => exact ⟨i + 1, rows2, ft5, fr6, by rw [show wrap64 ((i : Int) + 1) = ((i + 1 : Nat) : Int) by have := HLT.out; have := HM.out; unfold wrap64; omega], ⟨by have := HLT.out; omega, Nat.le_refl _, by have := HLT.out; omega, by have := Hi.out; have := HL2.out; omega⟩, ⟨HA2.out⟩, HT_110, HX_111, HS5, HSX6, HD6, HB_112⟩
        · have k1 : ((n : Int) / 4 % 2 == 0) = false := by rw [beq_eq_false_iff_ne]; omega
          obtain ⟨iV, hiV⟩ : ∃ iV : Int, iV = if r ∈ rows then (rows.idxOf r : Int) else 0 := ⟨_, rfl⟩
          obtain ⟨bV, hbV⟩ : ∃ bV, bV = decide (r ∈ rows) := ⟨_, rfl⟩
          have HPI := Aside0.mk (And.intro hiV.symm hbV.symm)
          clear hiV hbV hkind
          go_wp2_with fail
          refine (Find_calls ga ft rows Ap cp ps _ HT4.out (Kd.R_reads' HP4.out).2.2 (Kd.R_reads' HP4.out).2.1 (by have := HK.out; omega) (by omega)).mono ?_
          rintro e w5 ⟨rfl, hb5⟩
          rw [HRE.out, HPI.out.1, HPI.out.2]
          have HT5 := Aside0.mk (HT4.out.below hb5)
          have HX5 := Aside0.mk (HX4.out.below hb5)
          have HP5 := Aside0.mk (Kd.R_below HP4.out hb5)
          have HB5 := Aside0.mk (below_then HB4.out HB4.out.size hb5)
          clear hb5 HT4 HX4 HP4 HB4
          go_wp2_with fail
          refine (rfind_calls gx fr rows Ap cp ps _ HX5.out (Kd.R_reads' HP5.out).2.2 (Kd.R_reads' HP5.out).2.1 (by have := HK.out; omega) (by omega)).mono ?_
          rintro e w6 ⟨rfl, hb6⟩
          rw [HRE.out, HPI.out.1, HPI.out.2]
          have HT_ := Aside0.mk (HT5.out.below hb6)
          have HX_ := Aside0.mk (HX5.out.below hb6)
          have HB_ := Aside0.mk (below_then HB5.out HB5.out.size hb6)
          clear hb6 HT5 HX5 HP5 HB5
          obtain ⟨jr, hjr⟩ : ∃ jr : Int, jr = (n : Int) % 7 - 1 := ⟨_, rfl⟩
          obtain ⟨q, hq⟩ : ∃ q, q = rowR rows ((n : Int) % 7 - 1) := ⟨_, rfl⟩
          have hql : q.length ≤ 3 := by rw [hq]; exact rowR_len Hrl.out _
          obtain ⟨kc, hkc⟩ := Ev.rounds (ev_Same q q (by omega))
          rw [decide_eq_true rfl] at hkc
          have HKC := Aside0.mk hkc
          have HQ := Aside0.mk hq.symm
          clear hkc hq hql hjr jr
          go_wp2_with fail
          refine (len_calls ga ft rows _ HT_.out).mono ?_
          rintro e w7 ⟨rfl, rfl⟩
          go_wp2_with fail
          refine (rlen_calls gx fr rows _ HX_.out).mono ?_
          rintro e w7 ⟨rfl, rfl⟩
          go_wp2_with fail
          refine (row_calls ga ft rows ((n : Int) % 7 - 1) _ HT_.out).mono ?_
          rintro e w7 ⟨v7, rfl, ho7, hb7⟩
          rw [HQ.out] at ho7
          obtain ⟨A7, c7, rfl⟩ := Kd.R_slice (pairs_R ho7)
          have HT_201 := Aside0.mk (HT_.out.below hb7)
          have HX_202 := Aside0.mk (HX_.out.below hb7)
          have HB_203 := Aside0.mk (below_then HB_.out HB_.out.size hb7)
          clear HT_ HX_ HB_
          have Hr7_204 := Aside0.mk (pairs_R ho7)
          clear ho7 hb7
          go_wp2_with fail
          refine (rrow_calls gx fr rows ((n : Int) % 7 - 1) _ HX_202.out).mono ?_
          rintro e w8 ⟨v8, rfl, ho8, hb8⟩
          rw [HQ.out] at ho8
          obtain ⟨A8, c8, rfl⟩ := Kd.R_slice ho8
          have HT_205 := Aside0.mk (HT_201.out.below hb8)
          have HX_206 := Aside0.mk (HX_202.out.below hb8)
          have HB_207 := Aside0.mk (below_then HB_203.out HB_203.out.size hb8)
          have Hr7_208 := Aside0.mk (Kd.R_below Hr7_204.out hb8)
          clear HT_201 HX_202 HB_203 Hr7_204
          have Hr8_209 := Aside0.mk (ho8)
          clear ho8 hb8
          go_wp2_with fail
          refine (canopyref2_Same.calls kc A7 c7 q A8 c8 q true _ (Kd.R_reads' Hr7_208.out).2.2 (Kd.R_reads' Hr7_208.out).2.1 (Kd.R_reads' Hr8_209.out).2.2 (Kd.R_reads' Hr8_209.out).2.1 HKC.out).mono ?_
          rintro e w9 ⟨rfl, hd9⟩
          have HT_210 := Aside0.mk (HT_205.out.below hd9.below)
          have HX_211 := Aside0.mk (HX_206.out.below hd9.below)
          have HB_212 := Aside0.mk (below_then HB_207.out HB_207.out.size hd9.below)
          clear HT_205 HX_206 HB_207
          clear hd9
          go_wp2
          go_roundg (l0.length - (i + 1))
          case measure => have := Hi.out; have := HLT.out; omega
          case rel => exact ⟨i + 1, rows, ft, fr, by rw [show wrap64 ((i : Int) + 1) = ((i + 1 : Nat) : Int) by have := HLT.out; have := HM.out; unfold wrap64; omega], ⟨by have := HLT.out; omega, Nat.le_refl _, by have := HLT.out; omega, by have := Hi.out; have := Nat.le_succ rows.length; omega⟩, ⟨Hrl.out⟩, HT_210, HX_211, HS, HSX, HD, HB_212⟩
    · have t1 : decide (i < l0.length) = true ∧ decide ((i : Int) < 40) = false ∨ decide (i < l0.length) = false := by
        by_cases h : i < l0.length
        · exact .inl ⟨decide_eq_true h, decide_eq_false (by omega)⟩
        · exact .inr (decide_eq_false h)
      clear hlt
      rcases t1 with ⟨t1, t2⟩ | t1
      all_goals
        go_wp2
        go_ret
        exact ⟨rfl, HB.out⟩
theorem canopylaw2_SetsTables.walk (P : canopylaw2_SetsTables.Pure) (a0 : Option Addr) (len0 cap0 : Nat) (z0 : List Int) (a1 : Option Addr) (len1 cap1 : Nat) (z1 : List Int) (w : World) (w0 : (a0 = none ∧ len0 = 0 ∧ cap0 = 0 ∧ z0 = []) ∨ ∃ x, a0 = some x ∧ len0 ≤ cap0 ∧ cap0 ≤ maxLen ∧ z0.length = cap0 ∧ (∀ i, i < z0.length → w.cell? (x.add i) = some (.int .i64 (z0.getD i 0))) ∧ ∀ n ∈ z0, (Lit.int .i64 n).wf = true) (y0 : len0 * 8 ≤ 140737488351232) (w1 : (a1 = none ∧ len1 = 0 ∧ cap1 = 0 ∧ z1 = []) ∨ ∃ x, a1 = some x ∧ len1 ≤ cap1 ∧ cap1 ≤ maxLen ∧ z1.length = cap1 ∧ (∀ i, i < z1.length → w.cell? (x.add i) = some (.int .i64 (z1.getD i 0))) ∧ ∀ n ∈ z1, (Lit.int .i64 n).wf = true) (y1 : len1 * 8 ≤ 140737488351232) :
    Calls Try.prog 7 #[.slice a0 len0 cap0, .slice a1 len1 cap1] w fun e w' => e = .returned (.bool true) ∧ Below w.heap.size w w' := by
  obtain ⟨l0, rfl, hr0, hm0, hw0, hc0⟩ := ReadsInt.ofRowC w0
  obtain ⟨l1, rfl, hr1, hm1, hw1, hc1⟩ := ReadsInt.ofRowC w1
  exact canopylaw2_SetsTables.calls _ _ l0 _ _ l1 w (Kd.C_of_reads (d := (0 : Int)) (h1 := fun _ => rfl) hr0) hc0 (Kd.C_of_reads (d := (0 : Int)) (h1 := fun _ => rfl) hr1) hc1 (by omega) (by omega)
end Go.Proofs.Ytmkpfamngedcmaa.P
