/- runs.Step: what it computes, and that the Go text computes it. -/
import Derived.Test.YtjkhdldgmkkhjaaSMeth
set_option linter.unusedVariables false
set_option linter.unusedSimpArgs false
set_option linter.unnecessarySimpa false
namespace Go.Proofs.Ytjkhdldgmkkhjaa.P
open Go.RowKit Go.Sort Go.Shelf Go.Proofs.YtjkhdldgmkkhjaaW.PrintWords Go.Proofs.YtjkhdldgmkkhjaaW.PrintLast Go.Proofs.YtjkhdldgmkkhjaaW.PrintMore Go.Proofs.Ytjkhdldgmkkhjaa.M

/-- where a machine may be from one place behind a symbol -/
theorem openL_len (l : List TOpen) (x : TAt) (s : Int) : (openL l x s).length ≤ l.length := by simp [openL]; exact List.length_filter_le _ _
theorem closeL_len (l : List TClose) (x : TAt) (s : Int) : (closeL l x s).length ≤ l.length := by simp [closeL]; exact List.length_filter_le _ _
theorem innerL_len (l : List TInner) (x : TAt) (s : Int) : (innerL l x s).length ≤ l.length := by simp [innerL]; exact List.length_filter_le _ _

set_option maxHeartbeats 8000000 in
set_option maxRecDepth 100000 in
theorem runs_Step.calls (A0 : Option Addr) (c0 : Nat) (l0 : List TSym) (a1_0 a1_1 : Int) (A1_2 : Option Addr) (c1_2 : Nat) (l1_2 : List Int) (A1_3 : Option Addr) (c1_3 : Nat) (l1_3 : List Int) (A1_4 : Option Addr) (c1_4 : Nat) (l1_4 : List TOpen) (A1_5 : Option Addr) (c1_5 : Nat) (l1_5 : List TClose) (A1_6 : Option Addr) (c1_6 : Nat) (l1_6 : List TInner) (A2 : Option Addr) (c2 : Nat) (l2 : List TAt) (a3 : Int) (r : List TAt) (w : World)
    (hr0 : Kd.C k46 w A0 l0.length l0) (hc0 : l0.length ≤ c0) (hr1_2 : Kd.C (Kd.int .i64) w A1_2 l1_2.length l1_2) (hc1_2 : l1_2.length ≤ c1_2) (hr1_3 : Kd.C (Kd.int .i64) w A1_3 l1_3.length l1_3) (hc1_3 : l1_3.length ≤ c1_3) (hr1_4 : Kd.C k52 w A1_4 l1_4.length l1_4) (hc1_4 : l1_4.length ≤ c1_4) (hr1_5 : Kd.C k54 w A1_5 l1_5.length l1_5) (hc1_5 : l1_5.length ≤ c1_5) (hr1_6 : Kd.C k56 w A1_6 l1_6.length l1_6) (hc1_6 : l1_6.length ≤ c1_6) (hr2 : Kd.C k48 w A2 l2.length l2) (hc2 : l2.length ≤ c2)
    (h : runs_Step.f l0 a1_0 a1_1 l1_2 l1_3 l1_4 l1_5 l1_6 l2 a3 = some r) :
    Calls Try.prog 21 #[.slice A0 l0.length c0, .agg #[.int .i64 a1_0, .int .i64 a1_1, .slice A1_2 l1_2.length c1_2, .slice A1_3 l1_3.length c1_3, .slice A1_4 l1_4.length c1_4, .slice A1_5 l1_5.length c1_5, .slice A1_6 l1_6.length c1_6], .slice A2 l2.length c2, .int .i64 a3] w fun e w' => ∃ v0_ : Value, e = .returned v0_ ∧ Kd.S k48 48 w' w.heap.size (fun _ => True) v0_ r ∧ Below w.heap.size w w' := by
  unfold runs_Step.f at h
  split at h
  case isFalse => cases h
  rename_i hok
  cases h
  have HOK := Aside0.mk hok
  have HR0 := Aside0.mk hr0
  have HR4 := Aside0.mk hr1_4
  have HR5 := Aside0.mk hr1_5
  have HR6 := Aside0.mk hr1_6
  have HR2 := Aside0.mk hr2
  clear hok hr0 hc0 hr1_2 hc1_2 hr1_3 hc1_3 hr1_4 hc1_4 hr1_5 hc1_5 hr1_6 hc1_6 hr2 hc2
  by_cases h1 : a3 < 0
  · have d1 : decide (a3 < 0) = true := decide_eq_true h1
    have hs : Aside0 (stepL l0 l1_4 l1_5 l1_6 l2 a3 = []) := ⟨by unfold stepL; rw [if_neg (by omega)]⟩
    clear h1
    go_enter Try.func21, Try.ntmps21
    go_wp2
    go_ret
    exact ⟨_, rfl, by rw [hs.out]; exact Kd.S_nil _ _ _ _ _, below_alloc (Below.refl _ _) _⟩
  · have d1 : decide (a3 < 0) = false := decide_eq_false h1
    by_cases h2 : a3 ≥ (l0.length : Int)
    · have d2 : decide (a3 ≥ (l0.length : Int)) = true := decide_eq_true h2
      have hs : Aside0 (stepL l0 l1_4 l1_5 l1_6 l2 a3 = []) := ⟨by unfold stepL; rw [if_neg (by omega)]⟩
      clear h1 h2
      go_enter Try.func21, Try.ntmps21
      go_wp2
      go_ret
      exact ⟨_, rfl, by rw [hs.out]; exact Kd.S_nil _ _ _ _ _, below_alloc (Below.refl _ _) _⟩
    · have d2 : decide (a3 ≥ (l0.length : Int)) = false := decide_eq_false h2
      obtain ⟨ad, e0, hk0, hk1⟩ := at_T46 HR0.out a3 (by omega) (by omega)
      cases e0
      have t1 := eq_true (show (0 : Int) ≤ a3 by omega)
      have t2 := eq_true (show a3 < (l0.length : Int) by omega)
      have hs : Aside0 (stepL l0 l1_4 l1_5 l1_6 l2 a3 = onceC cmpAt (l2.flatMap (moveL l1_4 l1_5 l1_6 (rd_T46 l0 a3).f1 a3))) := ⟨by unfold stepL; rw [if_pos (by omega)]⟩
      have lt1 := World.block_lt_of_cell? w _ hk1
      clear h1 h2 hk0
      generalize (rd_T46 l0 a3).f1 = kind at hk1 hs
      by_cases k1 : kind = 1
      · subst k1
        replace hs : Aside0 (stepL l0 l1_4 l1_5 l1_6 l2 a3 = onceC cmpAt (l2.flatMap fun x => openL l1_4 x a3)) := ⟨by rw [hs.out]; rfl⟩
        go_enter Try.func21, Try.ntmps21
        go_wp2
        have HB0 : Aside0 (Below w.heap.size w ((w.alloc (.cells #[.int .i64 a1_0, .int .i64 a1_1, .slice A1_2 l1_2.length c1_2, .slice A1_3 l1_3.length c1_3, .slice A1_4 l1_4.length c1_4, .slice A1_5 l1_5.length c1_5, .slice A1_6 l1_6.length c1_6] 30)).alloc (.cells #[.int .i64 a1_0, .int .i64 a1_1, .slice A1_2 l1_2.length c1_2, .slice A1_3 l1_3.length c1_3, .slice A1_4 l1_4.length c1_4, .slice A1_5 l1_5.length c1_5, .slice A1_6 l1_6.length c1_6, .int .i64 a3, .slice none 0 0] 70))) := ⟨below_alloc (below_alloc (Below.refl _ _) _) _⟩
        have HS0 : Aside0 (StepBlk ((w.alloc (.cells #[.int .i64 a1_0, .int .i64 a1_1, .slice A1_2 l1_2.length c1_2, .slice A1_3 l1_3.length c1_3, .slice A1_4 l1_4.length c1_4, .slice A1_5 l1_5.length c1_5, .slice A1_6 l1_6.length c1_6] 30)).alloc (.cells #[.int .i64 a1_0, .int .i64 a1_1, .slice A1_2 l1_2.length c1_2, .slice A1_3 l1_3.length c1_3, .slice A1_4 l1_4.length c1_4, .slice A1_5 l1_5.length c1_5, .slice A1_6 l1_6.length c1_6, .int .i64 a3, .slice none 0 0] 70)) (w.heap.size + 1) (.int .i64 a1_0) (.int .i64 a1_1) (.slice A1_2 l1_2.length c1_2) (.slice A1_3 l1_3.length c1_3) (.slice A1_4 l1_4.length c1_4) (.slice A1_5 l1_5.length c1_5) (.slice A1_6 l1_6.length c1_6) a3 (.slice none 0 0)) := ⟨blk_newAt _ (size_alloc _ _).symm⟩
        clear hk1 lt1 t1 t2 d1 d2
        go_loopg [42] l2.length (fun gq v42 w' => ∃ (i : Nat) (v : Value) (es : List (TAt × Value)), v42 = .int .i64 (i : Int) ∧ Aside0 (i ≤ l2.length ∧ l2.length - i ≤ gq) ∧ Aside0 (StepBlk w' (w.heap.size + 1) (.int .i64 a1_0) (.int .i64 a1_1) (.slice A1_2 l1_2.length c1_2) (.slice A1_3 l1_3.length c1_3) (.slice A1_4 l1_4.length c1_4) (.slice A1_5 l1_5.length c1_5) (.slice A1_6 l1_6.length c1_6) a3 v) ∧ Aside0 (AtRow w' w.heap.size v es) ∧ Aside0 (v = .slice none 0 0 ∨ es ≠ []) ∧
          Aside0 (es.map (·.1) = (l2.take i).flatMap (fun x => openL l1_4 x a3)) ∧ Aside0 (Below w.heap.size w w') ∧ Aside0 (es.length ≤ i * l1_4.length))
        case atStart => exact ⟨0, .slice none 0 0, [], rfl, ⟨by omega, by omega⟩, HS0, ⟨⟨World.ownsRow_nil _ _ _ _, by simp, .nil⟩⟩, ⟨.inl rfl⟩, ⟨by simp⟩, HB0, ⟨by simp⟩⟩
        case round =>
          obtain ⟨i, v, es, rfl, Hi, Hb, Hr, Hv, Hm, HBr, Hl⟩ := hrel
          by_cases hlt : i < l2.length
          · have d5 : (i < l2.length) = True := eq_true hlt
            obtain ⟨ad2, Ax, cx, e2, hx0, hx1, hx2, hx3⟩ := at_T48 HR2.out (i : Int) (by omega) (by omega)
            cases e2
            replace hx0 := (HBr.out.cell (World.block_lt_of_cell? w _ hx0)).trans hx0
            replace hx1 := (HBr.out.cell (World.block_lt_of_cell? w _ hx1)).trans hx1
            rw [Int.toNat_natCast] at hx0 hx1
            have t5 := eq_true (show (i : Int) < (l2.length : Int) by omega)
            have Hn : Aside0 (l2.take (i + 1) = l2.take i ++ [rd_T48 l2 (i : Int)]) := ⟨by
              have := take_next z48 l2 (i : Int) (by omega) (by omega)
              rwa [show ((i : Int) + 1).toNat = i + 1 by omega, Int.toNat_natCast] at this⟩
            have Hxl : Aside0 ((rd_T48 l2 (i : Int)).f1.length ≤ 10000000) := ⟨HOK.out.2 _ (List.mem_of_mem_take (i := i + 1) (by rw [Hn.out]; simp))⟩
            have HI := Aside0.mk hlt
            have Hx2 := Aside0.mk hx2
            have Hx3 := Aside0.mk hx3
            generalize rd_T48 l2 (i : Int) = x at hx0 hx1 Hx2 Hx3 Hn Hxl
            have Hle : Aside0 (es.length + l1_4.length ≤ 100000000) := ⟨by
              have h1 := Hl.out
              have h2 := HOK.out.1
              have h3 : (i + 1) * l1_4.length ≤ (l2.length + 1) * (l1_4.length + l1_5.length + l1_6.length + 1) := Nat.mul_le_mul (by omega) (by omega)
              rw [Nat.add_mul, Nat.one_mul] at h3
              omega⟩
            clear hlt hx2 hx3
            go_wp2_with (go_at_call 36; go_loud (refine (open_calls w _ (w.heap.size + 1) (.int .i64 a1_0) (.int .i64 a1_1) (.slice A1_2 l1_2.length c1_2) (.slice A1_3 l1_3.length c1_3) (.slice A1_5 l1_5.length c1_5) (.slice A1_6 l1_6.length c1_6) A1_4 c1_4 l1_4 a3 v es x Ax cx (below_alloc HBr.out _) (by omega) (blk_old Hb.out _) (Hr.out.below (below_alloc (Below.refl _ _) _)) Hv.out HR4.out Hx3.out Hx2.out ⟨by have := Hle.out; omega, by have := Hxl.out; omega⟩).mono ?_); rintro e w2 ⟨rfl, v2, es2, hb2, hr2, hv2, hm2, hB2⟩; have Hb2 := Aside0.mk hb2; have Hr2 := Aside0.mk hr2; have Hv2 := Aside0.mk hv2; have Hm2 := Aside0.mk hm2; have HB2 := Aside0.mk hB2; clear hb2 hr2 hv2 hm2 hB2)
            go_roundg (l2.length - (i + 1))
            case measure => have := Hi.out; have := HI.out; omega
            case rel =>
              have h1 := HOK.out.1
              have h3 := HI.out
              have h4 : l2.length + 1 ≤ (l2.length + 1) * (l1_4.length + l1_5.length + l1_6.length + 1) := Nat.le_mul_of_pos_right _ (by omega)
              refine ⟨i + 1, v2, es2, by rw [show wrap64 ((i : Int) + 1) = ((i + 1 : Nat) : Int) by unfold wrap64; omega], ⟨h3, Nat.le_refl _⟩, Hb2, Hr2, Hv2, ⟨?_⟩, HB2, ⟨?_⟩⟩
              · rw [Hm2.out, Hm.out, Hn.out, List.flatMap_append]; simp
              · have h5 := congrArg List.length Hm2.out
                rw [List.length_append, List.length_map, List.length_map] at h5
                have h6 := openL_len l1_4 x a3
                have h7 := Hl.out
                rw [Nat.add_mul, Nat.one_mul]
                omega
          · have d5 : (i < l2.length) = False := eq_false hlt
            have hi : i = l2.length := by have := Hi.out; omega
            subst hi
            clear hlt
            have k8 : wr.cell? ⟨w.heap.size + 1, 8, none⟩ = some v := (blk_cell Hb.out 8).trans rfl
            have hm := Hm.out
            rw [List.take_length] at hm
            have HM := Aside0.mk hm
            have Hel : Aside0 (es.length ≤ 1000000000) := ⟨by
              have h1 := Hl.out
              have h2 := HOK.out.1
              have h3 : l2.length * l1_4.length ≤ (l2.length + 1) * (l1_4.length + l1_5.length + l1_6.length + 1) := Nat.mul_le_mul (by omega) (by omega)
              omega⟩
            clear hm
            go_wp2_with (go_at_call 33; go_loud (refine (once_calls _ w.heap.size v es Hv.out Hel.out Hr.out).mono ?_; rintro e w2 ⟨v', es', rfl, hm, hme, hpl, hst, how, hgw⟩; have HM2 := Aside0.mk hm; have HP := Aside0.mk hpl; have HST := Aside0.mk hst; have HOW := Aside0.mk how; have HG := Aside0.mk hgw; clear hm hme hpl hst how hgw))
            go_ret
            have hb2 : Below w.heap.size w w2 := below_gb HBr.out HG.out (fun k hk => (Hr.out.1.lt k hk).1)
            refine ⟨v', rfl, ?_, hb2⟩
            have hp := pack_S (base := w.heap.size) (own_mono HOW.out HBr.out.size) HST.out HP.out
            rw [HM2.out, HM.out] at hp
            rw [hs.out]
            exact hp
      · by_cases k2 : kind = 2
        · subst k2
          replace hs : Aside0 (stepL l0 l1_4 l1_5 l1_6 l2 a3 = onceC cmpAt (l2.flatMap fun x => closeL l1_5 x a3)) := ⟨by rw [hs.out]; rfl⟩
          clear k1
          go_enter Try.func21, Try.ntmps21
          go_wp2
          have HB0 : Aside0 (Below w.heap.size w ((w.alloc (.cells #[.int .i64 a1_0, .int .i64 a1_1, .slice A1_2 l1_2.length c1_2, .slice A1_3 l1_3.length c1_3, .slice A1_4 l1_4.length c1_4, .slice A1_5 l1_5.length c1_5, .slice A1_6 l1_6.length c1_6] 30)).alloc (.cells #[.int .i64 a1_0, .int .i64 a1_1, .slice A1_2 l1_2.length c1_2, .slice A1_3 l1_3.length c1_3, .slice A1_4 l1_4.length c1_4, .slice A1_5 l1_5.length c1_5, .slice A1_6 l1_6.length c1_6, .int .i64 a3, .slice none 0 0] 70))) := ⟨below_alloc (below_alloc (Below.refl _ _) _) _⟩
          have HS0 : Aside0 (StepBlk ((w.alloc (.cells #[.int .i64 a1_0, .int .i64 a1_1, .slice A1_2 l1_2.length c1_2, .slice A1_3 l1_3.length c1_3, .slice A1_4 l1_4.length c1_4, .slice A1_5 l1_5.length c1_5, .slice A1_6 l1_6.length c1_6] 30)).alloc (.cells #[.int .i64 a1_0, .int .i64 a1_1, .slice A1_2 l1_2.length c1_2, .slice A1_3 l1_3.length c1_3, .slice A1_4 l1_4.length c1_4, .slice A1_5 l1_5.length c1_5, .slice A1_6 l1_6.length c1_6, .int .i64 a3, .slice none 0 0] 70)) (w.heap.size + 1) (.int .i64 a1_0) (.int .i64 a1_1) (.slice A1_2 l1_2.length c1_2) (.slice A1_3 l1_3.length c1_3) (.slice A1_4 l1_4.length c1_4) (.slice A1_5 l1_5.length c1_5) (.slice A1_6 l1_6.length c1_6) a3 (.slice none 0 0)) := ⟨blk_newAt _ (size_alloc _ _).symm⟩
          clear hk1 lt1 t1 t2 d1 d2
          go_loopg [42] l2.length (fun gq v42 w' => ∃ (i : Nat) (v : Value) (es : List (TAt × Value)), v42 = .int .i64 (i : Int) ∧ Aside0 (i ≤ l2.length ∧ l2.length - i ≤ gq) ∧ Aside0 (StepBlk w' (w.heap.size + 1) (.int .i64 a1_0) (.int .i64 a1_1) (.slice A1_2 l1_2.length c1_2) (.slice A1_3 l1_3.length c1_3) (.slice A1_4 l1_4.length c1_4) (.slice A1_5 l1_5.length c1_5) (.slice A1_6 l1_6.length c1_6) a3 v) ∧ Aside0 (AtRow w' w.heap.size v es) ∧ Aside0 (v = .slice none 0 0 ∨ es ≠ []) ∧
            Aside0 (es.map (·.1) = (l2.take i).flatMap (fun x => closeL l1_5 x a3)) ∧ Aside0 (Below w.heap.size w w') ∧ Aside0 (es.length ≤ i * l1_5.length))
          case atStart => exact ⟨0, .slice none 0 0, [], rfl, ⟨by omega, by omega⟩, HS0, ⟨⟨World.ownsRow_nil _ _ _ _, by simp, .nil⟩⟩, ⟨.inl rfl⟩, ⟨by simp⟩, HB0, ⟨by simp⟩⟩
          case round =>
            obtain ⟨i, v, es, rfl, Hi, Hb, Hr, Hv, Hm, HBr, Hl⟩ := hrel
            by_cases hlt : i < l2.length
            · have d5 : (i < l2.length) = True := eq_true hlt
              obtain ⟨ad2, Ax, cx, e2, hx0, hx1, hx2, hx3⟩ := at_T48 HR2.out (i : Int) (by omega) (by omega)
              cases e2
              replace hx0 := (HBr.out.cell (World.block_lt_of_cell? w _ hx0)).trans hx0
              replace hx1 := (HBr.out.cell (World.block_lt_of_cell? w _ hx1)).trans hx1
              rw [Int.toNat_natCast] at hx0 hx1
              have t5 := eq_true (show (i : Int) < (l2.length : Int) by omega)
              have Hn : Aside0 (l2.take (i + 1) = l2.take i ++ [rd_T48 l2 (i : Int)]) := ⟨by
                have := take_next z48 l2 (i : Int) (by omega) (by omega)
                rwa [show ((i : Int) + 1).toNat = i + 1 by omega, Int.toNat_natCast] at this⟩
              have Hxl : Aside0 ((rd_T48 l2 (i : Int)).f1.length ≤ 10000000) := ⟨HOK.out.2 _ (List.mem_of_mem_take (i := i + 1) (by rw [Hn.out]; simp))⟩
              have HI := Aside0.mk hlt
              have Hx2 := Aside0.mk hx2
              have Hx3 := Aside0.mk hx3
              generalize rd_T48 l2 (i : Int) = x at hx0 hx1 Hx2 Hx3 Hn Hxl
              have Hle : Aside0 (es.length + l1_5.length ≤ 100000000) := ⟨by
                have h1 := Hl.out
                have h2 := HOK.out.1
                have h3 : (i + 1) * l1_5.length ≤ (l2.length + 1) * (l1_4.length + l1_5.length + l1_6.length + 1) := Nat.mul_le_mul (by omega) (by omega)
                rw [Nat.add_mul, Nat.one_mul] at h3
                omega⟩
              clear hlt hx2 hx3
              go_wp2_with (go_at_call 37; go_loud (refine (close_calls w _ (w.heap.size + 1) (.int .i64 a1_0) (.int .i64 a1_1) (.slice A1_2 l1_2.length c1_2) (.slice A1_3 l1_3.length c1_3) (.slice A1_4 l1_4.length c1_4) (.slice A1_6 l1_6.length c1_6) A1_5 c1_5 l1_5 a3 v es x Ax cx (below_alloc HBr.out _) (by omega) (blk_old Hb.out _) (Hr.out.below (below_alloc (Below.refl _ _) _)) Hv.out HR5.out Hx3.out Hx2.out ⟨by have := Hle.out; omega, by have := Hxl.out; omega⟩).mono ?_); rintro e w2 ⟨rfl, v2, es2, hb2, hr2, hv2, hm2, hB2⟩; have Hb2 := Aside0.mk hb2; have Hr2 := Aside0.mk hr2; have Hv2 := Aside0.mk hv2; have Hm2 := Aside0.mk hm2; have HB2 := Aside0.mk hB2; clear hb2 hr2 hv2 hm2 hB2)
              go_roundg (l2.length - (i + 1))
              case measure => have := Hi.out; have := HI.out; omega
              case rel =>
                have h1 := HOK.out.1
                have h3 := HI.out
                have h4 : l2.length + 1 ≤ (l2.length + 1) * (l1_4.length + l1_5.length + l1_6.length + 1) := Nat.le_mul_of_pos_right _ (by omega)
                refine ⟨i + 1, v2, es2, by rw [show wrap64 ((i : Int) + 1) = ((i + 1 : Nat) : Int) by unfold wrap64; omega], ⟨h3, Nat.le_refl _⟩, Hb2, Hr2, Hv2, ⟨?_⟩, HB2, ⟨?_⟩⟩
                · rw [Hm2.out, Hm.out, Hn.out, List.flatMap_append]; simp
                · have h5 := congrArg List.length Hm2.out
                  rw [List.length_append, List.length_map, List.length_map] at h5
                  have h6 := closeL_len l1_5 x a3
                  have h7 := Hl.out
                  rw [Nat.add_mul, Nat.one_mul]
                  omega
            · have d5 : (i < l2.length) = False := eq_false hlt
              have hi : i = l2.length := by have := Hi.out; omega
              subst hi
              clear hlt
              have k8 : wr.cell? ⟨w.heap.size + 1, 8, none⟩ = some v := (blk_cell Hb.out 8).trans rfl
              have hm := Hm.out
              rw [List.take_length] at hm
              have HM := Aside0.mk hm
              have Hel : Aside0 (es.length ≤ 1000000000) := ⟨by
                have h1 := Hl.out
                have h2 := HOK.out.1
                have h3 : l2.length * l1_5.length ≤ (l2.length + 1) * (l1_4.length + l1_5.length + l1_6.length + 1) := Nat.mul_le_mul (by omega) (by omega)
                omega⟩
              clear hm
              go_wp2_with (go_at_call 33; go_loud (refine (once_calls _ w.heap.size v es Hv.out Hel.out Hr.out).mono ?_; rintro e w2 ⟨v', es', rfl, hm, hme, hpl, hst, how, hgw⟩; have HM2 := Aside0.mk hm; have HP := Aside0.mk hpl; have HST := Aside0.mk hst; have HOW := Aside0.mk how; have HG := Aside0.mk hgw; clear hm hme hpl hst how hgw))
              go_ret
              have hb2 : Below w.heap.size w w2 := below_gb HBr.out HG.out (fun k hk => (Hr.out.1.lt k hk).1)
              refine ⟨v', rfl, ?_, hb2⟩
              have hp := pack_S (base := w.heap.size) (own_mono HOW.out HBr.out.size) HST.out HP.out
              rw [HM2.out, HM.out] at hp
              rw [hs.out]
              exact hp
        · have d3 : (kind == 1) = false := beq_eq_false_iff_ne.mpr k1
          have d4 : (kind == 2) = false := beq_eq_false_iff_ne.mpr k2
          replace hs : Aside0 (stepL l0 l1_4 l1_5 l1_6 l2 a3 = onceC cmpAt (l2.flatMap fun x => innerL l1_6 x a3)) := ⟨by rw [hs.out]; congr 1; congr 1; funext x; unfold moveL; rw [if_neg k1, if_neg k2]⟩
          clear k1 k2
          go_enter Try.func21, Try.ntmps21
          go_wp2
          have HB0 : Aside0 (Below w.heap.size w ((w.alloc (.cells #[.int .i64 a1_0, .int .i64 a1_1, .slice A1_2 l1_2.length c1_2, .slice A1_3 l1_3.length c1_3, .slice A1_4 l1_4.length c1_4, .slice A1_5 l1_5.length c1_5, .slice A1_6 l1_6.length c1_6] 30)).alloc (.cells #[.int .i64 a1_0, .int .i64 a1_1, .slice A1_2 l1_2.length c1_2, .slice A1_3 l1_3.length c1_3, .slice A1_4 l1_4.length c1_4, .slice A1_5 l1_5.length c1_5, .slice A1_6 l1_6.length c1_6, .int .i64 a3, .slice none 0 0] 70))) := ⟨below_alloc (below_alloc (Below.refl _ _) _) _⟩
          have HS0 : Aside0 (StepBlk ((w.alloc (.cells #[.int .i64 a1_0, .int .i64 a1_1, .slice A1_2 l1_2.length c1_2, .slice A1_3 l1_3.length c1_3, .slice A1_4 l1_4.length c1_4, .slice A1_5 l1_5.length c1_5, .slice A1_6 l1_6.length c1_6] 30)).alloc (.cells #[.int .i64 a1_0, .int .i64 a1_1, .slice A1_2 l1_2.length c1_2, .slice A1_3 l1_3.length c1_3, .slice A1_4 l1_4.length c1_4, .slice A1_5 l1_5.length c1_5, .slice A1_6 l1_6.length c1_6, .int .i64 a3, .slice none 0 0] 70)) (w.heap.size + 1) (.int .i64 a1_0) (.int .i64 a1_1) (.slice A1_2 l1_2.length c1_2) (.slice A1_3 l1_3.length c1_3) (.slice A1_4 l1_4.length c1_4) (.slice A1_5 l1_5.length c1_5) (.slice A1_6 l1_6.length c1_6) a3 (.slice none 0 0)) := ⟨blk_newAt _ (size_alloc _ _).symm⟩
          clear hk1 lt1 t1 t2 d1 d2
          go_loopg [42] l2.length (fun gq v42 w' => ∃ (i : Nat) (v : Value) (es : List (TAt × Value)), v42 = .int .i64 (i : Int) ∧ Aside0 (i ≤ l2.length ∧ l2.length - i ≤ gq) ∧ Aside0 (StepBlk w' (w.heap.size + 1) (.int .i64 a1_0) (.int .i64 a1_1) (.slice A1_2 l1_2.length c1_2) (.slice A1_3 l1_3.length c1_3) (.slice A1_4 l1_4.length c1_4) (.slice A1_5 l1_5.length c1_5) (.slice A1_6 l1_6.length c1_6) a3 v) ∧ Aside0 (AtRow w' w.heap.size v es) ∧ Aside0 (v = .slice none 0 0 ∨ es ≠ []) ∧
            Aside0 (es.map (·.1) = (l2.take i).flatMap (fun x => innerL l1_6 x a3)) ∧ Aside0 (Below w.heap.size w w') ∧ Aside0 (es.length ≤ i * l1_6.length))
          case atStart => exact ⟨0, .slice none 0 0, [], rfl, ⟨by omega, by omega⟩, HS0, ⟨⟨World.ownsRow_nil _ _ _ _, by simp, .nil⟩⟩, ⟨.inl rfl⟩, ⟨by simp⟩, HB0, ⟨by simp⟩⟩
          case round =>
            obtain ⟨i, v, es, rfl, Hi, Hb, Hr, Hv, Hm, HBr, Hl⟩ := hrel
            by_cases hlt : i < l2.length
            · have d5 : (i < l2.length) = True := eq_true hlt
              obtain ⟨ad2, Ax, cx, e2, hx0, hx1, hx2, hx3⟩ := at_T48 HR2.out (i : Int) (by omega) (by omega)
              cases e2
              replace hx0 := (HBr.out.cell (World.block_lt_of_cell? w _ hx0)).trans hx0
              replace hx1 := (HBr.out.cell (World.block_lt_of_cell? w _ hx1)).trans hx1
              rw [Int.toNat_natCast] at hx0 hx1
              have t5 := eq_true (show (i : Int) < (l2.length : Int) by omega)
              have Hn : Aside0 (l2.take (i + 1) = l2.take i ++ [rd_T48 l2 (i : Int)]) := ⟨by
                have := take_next z48 l2 (i : Int) (by omega) (by omega)
                rwa [show ((i : Int) + 1).toNat = i + 1 by omega, Int.toNat_natCast] at this⟩
              have Hxl : Aside0 ((rd_T48 l2 (i : Int)).f1.length ≤ 10000000) := ⟨HOK.out.2 _ (List.mem_of_mem_take (i := i + 1) (by rw [Hn.out]; simp))⟩
              have HI := Aside0.mk hlt
              have Hx2 := Aside0.mk hx2
              have Hx3 := Aside0.mk hx3
              generalize rd_T48 l2 (i : Int) = x at hx0 hx1 Hx2 Hx3 Hn Hxl
              have Hle : Aside0 (es.length + l1_6.length ≤ 100000000) := ⟨by
                have h1 := Hl.out
                have h2 := HOK.out.1
                have h3 : (i + 1) * l1_6.length ≤ (l2.length + 1) * (l1_4.length + l1_5.length + l1_6.length + 1) := Nat.mul_le_mul (by omega) (by omega)
                rw [Nat.add_mul, Nat.one_mul] at h3
                omega⟩
              clear hlt hx2 hx3
              go_wp2_with (go_at_call 35; go_loud (refine (inner_calls w _ (w.heap.size + 1) (.int .i64 a1_0) (.int .i64 a1_1) (.slice A1_2 l1_2.length c1_2) (.slice A1_3 l1_3.length c1_3) (.slice A1_4 l1_4.length c1_4) (.slice A1_5 l1_5.length c1_5) A1_6 c1_6 l1_6 a3 v es x Ax cx (below_alloc HBr.out _) (by omega) (blk_old Hb.out _) (Hr.out.below (below_alloc (Below.refl _ _) _)) Hv.out HR6.out Hx3.out Hx2.out ⟨by have := Hle.out; omega, by have := Hxl.out; omega⟩).mono ?_); rintro e w2 ⟨rfl, v2, es2, hb2, hr2, hv2, hm2, hB2⟩; have Hb2 := Aside0.mk hb2; have Hr2 := Aside0.mk hr2; have Hv2 := Aside0.mk hv2; have Hm2 := Aside0.mk hm2; have HB2 := Aside0.mk hB2; clear hb2 hr2 hv2 hm2 hB2)
              go_roundg (l2.length - (i + 1))
              case measure => have := Hi.out; have := HI.out; omega
              case rel =>
                have h1 := HOK.out.1
                have h3 := HI.out
                have h4 : l2.length + 1 ≤ (l2.length + 1) * (l1_4.length + l1_5.length + l1_6.length + 1) := Nat.le_mul_of_pos_right _ (by omega)
                refine ⟨i + 1, v2, es2, by rw [show wrap64 ((i : Int) + 1) = ((i + 1 : Nat) : Int) by unfold wrap64; omega], ⟨h3, Nat.le_refl _⟩, Hb2, Hr2, Hv2, ⟨?_⟩, HB2, ⟨?_⟩⟩
                · rw [Hm2.out, Hm.out, Hn.out, List.flatMap_append]; simp
                · have h5 := congrArg List.length Hm2.out
                  rw [List.length_append, List.length_map, List.length_map] at h5
                  have h6 := innerL_len l1_6 x a3
                  have h7 := Hl.out
                  rw [Nat.add_mul, Nat.one_mul]
                  omega
            · have d5 : (i < l2.length) = False := eq_false hlt
              have hi : i = l2.length := by have := Hi.out; omega
              subst hi
              clear hlt
              have k8 : wr.cell? ⟨w.heap.size + 1, 8, none⟩ = some v := (blk_cell Hb.out 8).trans rfl
              have hm := Hm.out
              rw [List.take_length] at hm
              have HM := Aside0.mk hm
              have Hel : Aside0 (es.length ≤ 1000000000) := ⟨by
                have h1 := Hl.out
                have h2 := HOK.out.1
                have h3 : l2.length * l1_6.length ≤ (l2.length + 1) * (l1_4.length + l1_5.length + l1_6.length + 1) := Nat.mul_le_mul (by omega) (by omega)
                omega⟩
              clear hm
              go_wp2_with (go_at_call 33; go_loud (refine (once_calls _ w.heap.size v es Hv.out Hel.out Hr.out).mono ?_; rintro e w2 ⟨v', es', rfl, hm, hme, hpl, hst, how, hgw⟩; have HM2 := Aside0.mk hm; have HP := Aside0.mk hpl; have HST := Aside0.mk hst; have HOW := Aside0.mk how; have HG := Aside0.mk hgw; clear hm hme hpl hst how hgw))
              go_ret
              have hb2 : Below w.heap.size w w2 := below_gb HBr.out HG.out (fun k hk => (Hr.out.1.lt k hk).1)
              refine ⟨v', rfl, ?_, hb2⟩
              have hp := pack_S (base := w.heap.size) (own_mono HOW.out HBr.out.size) HST.out HP.out
              rw [HM2.out, HM.out] at hp
              rw [hs.out]
              exact hp
end Go.Proofs.Ytjkhdldgmkkhjaa.P
