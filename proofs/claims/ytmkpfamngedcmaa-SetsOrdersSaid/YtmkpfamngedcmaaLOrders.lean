/- SetsOrders, walked by hand: a row counts by what it has. -/
import Derived.Test.YtmkpfamngedcmaaSKnown2
import Derived.Test.YtmkpfamngedcmaaUPairsN
set_option linter.unusedVariables false
set_option linter.unusedSimpArgs false
set_option linter.unnecessarySimpa false
namespace Go.Proofs.Ytmkpfamngedcmaa.P
open Go.RowKit Go.Proofs.YtmkpfamngedcmaaW.PrintWords Go.Proofs.YtmkpfamngedcmaaW.PrintLast Go.Proofs.YtmkpfamngedcmaaW.PrintMore Go.Proofs.Ytmkpfamngedcmaa.M Go.Proofs.Ytmkpfamngedcmaa.Pure

theorem infoPair : (Try.prog.info? 27).map (fun i => (i.zero, i.size, i.bytes)) = some (some (.agg #[.int .i64 0, .int .i64 0]), 2, 16) := by kernel_rfl
def canopylaw2_SetsOrders.Pure : Prop := True
set_option maxHeartbeats 16000000 in
set_option maxRecDepth 100000 in
theorem canopylaw2_SetsOrders.calls (A0 : Option Addr) (c0 : Nat) (l0 : List Int) (a1 : Int) (w : World) (hr0 : Kd.C (Kd.int .i64) w A0 l0.length l0) (hc0 : l0.length ≤ c0) :
    Calls Try.prog 6 #[.slice A0 l0.length c0, .int .i64 a1] w fun e w' => e = .returned (.bool true) ∧ Below w.heap.size w w' := by
  obtain ⟨kp, hkp⟩ := Ev.rounds (ev_pairsE l0 12 (by omega))
  have hpl : (pairsE l0 12).length ≤ 12 := pairsE_len l0 12
  generalize pairsE l0 12 = p at hkp hpl
  obtain ⟨r, hr⟩ : ∃ r, r = onceC cmpPair p := ⟨_, rfl⟩
  obtain ⟨t, htl, hw⟩ : ∃ t : Nat, t ≤ p.length ∧ canopylaw2_within.f a1 ((p.length : Int) + 1) = some (t : Int) := by
    refine ⟨(a1 % ((p.length : Int) + 1)).toNat, ?_, ?_⟩
    · have := Int.emod_lt_of_pos a1 (show 0 < (p.length : Int) + 1 by omega)
      omega
    · rw [withinE (by omega) (by omega), Int.toNat_of_nonneg (Int.emod_nonneg a1 (by omega))]
  obtain ⟨d1, hd1⟩ : ∃ d, d = p.drop t := ⟨_, rfl⟩
  obtain ⟨d2, hd2⟩ : ∃ d, d = p.take t := ⟨_, rfl⟩
  obtain ⟨y1, hy1⟩ : ∃ y, [] ++ d1 = y := ⟨_, rfl⟩
  obtain ⟨y2, hy2⟩ : ∃ y, y1 ++ d2 = y := ⟨_, rfl⟩
  obtain ⟨y3, hy3⟩ : ∃ y, y2 ++ p = y := ⟨_, rfl⟩
  have HYL : Aside0 (y1.length ≤ 12 ∧ y2.length ≤ 24 ∧ y3.length ≤ 36) := ⟨by
    rw [← hy3, ← hy2, ← hy1, hd1, hd2]
    simp only [List.length_append, List.length_nil, List.length_drop, List.length_take]
    omega⟩
  have HRR : Aside0 (onceC cmpPair y3 = r) := ⟨by
    rw [hr, ← hy3, ← hy2, ← hy1, hd1, hd2]
    refine once_same totalPair (fun x => ?_)
    have e : x ∈ p ↔ x ∈ p.take t ∨ x ∈ p.drop t := by rw [← List.mem_append, List.take_append_drop]
    rw [List.nil_append, List.mem_append, List.mem_append]
    constructor
    · rintro ((h | h) | h)
      · exact e.2 (.inr h)
      · exact e.2 (.inl h)
      · exact h
    · exact fun h => .inr h⟩
  have HR2 : Aside0 (onceC cmpPair r = r) := ⟨by rw [hr]; exact once_same totalPair (fun x => totalPair.mem_once)⟩
  have HRL : Aside0 (r.length ≤ 12) := ⟨by rw [hr]; exact Nat.le_trans (once_len totalPair p) hpl⟩
  have HPI : Aside0 (putI [r] r = 0 ∧ putR [r] r = [r]) := ⟨by unfold putI; rw [if_pos (by simp)]; simp, by unfold putR; rw [if_pos (by simp)]⟩
  have HPD : Aside0 (decide (r ∉ [r]) = false) := ⟨by simp⟩
  have HP0 : Aside0 (putI [] (onceC cmpPair p) = 0 ∧ putR [] (onceC cmpPair p) = [r] ∧ decide (onceC cmpPair p ∉ ([] : List (List TPair))) = true) := ⟨by unfold putI; rw [if_neg (by simp)]; simp, by unfold putR; rw [if_neg (by simp), hr]; rfl, by simp⟩
  have HSP : Aside0 (sets_Pairs.f p = some r) := ⟨by unfold sets_Pairs.f; rw [if_pos (by omega), hr]⟩
  have HFI : Aside0 ((if onceC cmpPair r ∈ [r] then ((([r] : List (List TPair)).idxOf (onceC cmpPair r) : Nat) : Int) else 0) = 0 ∧ decide (onceC cmpPair r ∈ [r]) = true) := ⟨by rw [HR2.out, if_pos (by simp)]; simp, by rw [HR2.out]; simp⟩
  have HKP := Aside0.mk hkp
  have HPL := Aside0.mk hpl
  have HTL := Aside0.mk htl
  have HWI := Aside0.mk hw
  have HR := Aside0.mk (And.intro hr0 hc0)
  have HY1 := Aside0.mk hy1
  have HY2 := Aside0.mk hy2
  have HY3 := Aside0.mk hy3
  have HD := Aside0.mk (And.intro hd1 hd2)
  clear hkp hpl htl hw hr0 hc0 hr hy1 hy2 hy3 hd1 hd2
  have tok1 := trivial
  have b1 : (p.length : Int) ≤ 12 := by have := HPL.out; omega
  go_enter Try.func6, Try.ntmps6
  go_wp2_with (first
    | (go_at_call 12; go_loud (refine (canopylaw2_known.calls true _ rfl).mono ?_; rintro e w1 ⟨rfl, hb1⟩; have HB1 := Aside0.mk hb1; clear hb1))
    | (go_at_call 25; go_loud (refine (new_calls _).mono ?_; rintro e w2 ⟨gt, ft, rfl, ht2, hs2, hb2⟩; have HT2 := Aside0.mk ht2; have HS2 : Aside0 (∀ k, ft k → w.heap.size ≤ k) := ⟨fun k hk => Nat.le_trans HB1.out.size (hs2 k hk)⟩; have HB2 := Aside0.mk (below_then HB1.out HB1.out.size hb2); clear ht2 hs2 hb2))
    | (go_at_call 13; go_loud (refine (canopylaw2_Pairs.calls kp _ _ l0 12 p _ (Kd.C_below HR.out.1 HB2.out) HR.out.2 HKP.out).mono ?_; rintro e w3 ⟨v3, rfl, ho3, hb3⟩; obtain ⟨Ap, cp, rfl⟩ := Kd.R_slice ho3; have HO3 := Aside0.mk ho3; have HT3 := Aside0.mk (HT2.out.below hb3); have HB3 := Aside0.mk (below_then HB2.out HB2.out.size hb3); clear ho3 hb3))
    | (go_at_call 14; go_loud (refine (canopylaw2_within.calls _ _ (t : Int) _ HWI.out).mono ?_; rintro e w4 ⟨rfl, hd4⟩; have HO4 := Aside0.mk (Kd.R_below HO3.out hd4.below); have HT4 := Aside0.mk (HT3.out.below hd4.below); have HB4 := Aside0.mk (below_then HB3.out HB3.out.size hd4.below); clear hd4))
    | (go_at_call 26; clear tok1; go_loud (refine (put_calls gt ft [] Ap cp p _ HT4.out (Kd.R_reads' HO4.out).2.2 (Kd.R_reads' HO4.out).2.1 (by have := HPL.out; omega) (by simp)).mono ?_; rintro e w5 ⟨rfl, ft2, ht5, hi5, hj5, hf5⟩; rw [HP0.out.2.1] at ht5; rw [HP0.out.1, HP0.out.2.2])))
  have HT5 := Aside0.mk ht5
  have HB5 : Aside0 (Below w.heap.size w w5) := ⟨HB4.out.trans (hf5.base HB4.out.size HS2.out)⟩
  have HS5 : Aside0 (∀ k, ft2 k → w.heap.size ≤ k) := ⟨fun k hk => (hj5 k hk).elim (HS2.out k) (fun h => Nat.le_trans HB4.out.size h)⟩
  have HO5 : Aside0 (Kd.R k27 27 w5 w2.heap.size (fun k => w2.heap.size ≤ k ∧ k < w4.heap.size) (.slice Ap p.length cp) p) := ⟨Kd.R_step (Kd.R_mono (Kd.R_bound HO4.out) (fun k hk => ⟨hk.2.1, hk.2.2.1⟩)) (fun k hk hlt => hf5.kept.2 k hlt (fun hf => by have h1 := HT2.out.lt_ k hf; have h2 := hk.1; omega))⟩
  have HF5 : Aside0 (∀ k, ft2 k → w2.heap.size ≤ k → k < w4.heap.size → False) := ⟨fun k hk h1 h2 => (hj5 k hk).elim (fun hf => by have h3 := HT2.out.lt_ k hf; omega) (fun h => by omega)⟩
  clear ht5 hi5 hj5 hf5
  have HTd := Aside0.mk (HT5.out.below (below_drew (Below.refl _ _)))
  have HBd : Aside0 (Below w.heap.size w w5.drew) := ⟨below_drew HB5.out⟩
  have HOd := Aside0.mk (Kd.R_drew HO5.out)
  have HSd := HS5
  have HFd := HF5
  have t0 : (0 : Int) ≤ (t : Int) := by omega
  have q53 : (t : Int) ≤ ((p.length : Int) : Int) := by have := HTL.out; omega
  obtain ⟨i053, hi053, _, hsz53, _⟩ := info_parts infoPair
  have hroom53 : p.length ≤ cp := (Kd.R_reads' HO5.out).2.1
  have hcut53 := cut_from (P := Try.prog) 24 27 .i64 Try.underlying24 hi053 2 hsz53 Ap p.length cp t t0 q53
  have hcut54 := cut_to (P := Try.prog) 24 27 .i64 Try.underlying24 hi053 Ap p.length cp t t0 q53 hroom53
  rw [Int.toNat_natCast] at hcut53 hcut54
  have hCp : Kd.C k27 w5.drew Ap p.length p := (Kd.R_reads' HOd.out).2.2
  have hr53 := Kd.C_drop (m := t) (c := cp) hCp (by have := HTL.out; omega) hroom53
  have hr54 := Kd.C_take (m := t) hCp (by have := HTL.out; omega)
  have HC3 := Aside0.mk hCp
  obtain ⟨A53, hA53⟩ : ∃ A1, A1 = (if cp = t then Ap else (Ap : Option Addr).map (·.add (t * 2))) := ⟨_, rfl⟩
  rw [← hA53] at hcut53
  obtain ⟨n53, hn53⟩ : ∃ n, n = p.length - t := ⟨_, rfl⟩
  rw [← hn53] at hcut53
  have HC1 : Aside0 (Kd.C k27 w5.drew A53 n53 d1) := ⟨by have h := hr53; rw [List.length_drop] at h; rw [hA53, hn53, HD.out.1]; exact h⟩
  have HC2 : Aside0 (Kd.C k27 w5.drew Ap t d2) := ⟨by have h := hr54; rw [List.length_take, Nat.min_eq_left HTL.out] at h; rw [HD.out.2]; exact h⟩
  have hn12 : n53 ≤ 12 := by have := HPL.out; omega
  have ht12 : t ≤ 12 := by have := HPL.out; have := HTL.out; omega
  clear hr53 hr54 hCp hA53 hn53 hi053 hsz53 hroom53
  refine start_ (n := 18) (S := fun w' => True) (ds := []) #[false, false, false, false, false, false, false, false, false, false, false, false, false, false, false, false, false, false] (by kernel_rfl) rfl rfl trivial (fun hHeld => ?_)
  generalize w5.drew = wd at HTd HBd HOd HC1 HC2 HC3 hHeld ⊢
  clear HT5 HB5 HO5 HS5 HF5 HT4 HB4 HO4 HT3 HB3 HO3
  refine pure_ (i := 0) (N := (some 33)) (v := ?_) (a' := ?_) #[true, false, false, false, false, false, false, false, false, false, false, false, false, false, false, false, false, false] rfl rfl (by kernel_rfl) (fun _ _ _ h => h) (Or.inl ⟨by rfl, ?_⟩) ?_ ?_
  rotate_left
  · intro w'
    go_simp
    with_reducible rfl
  rotate_left
  · simp only [Act.put, List.setIfInBounds_toArray, List.set_cons_zero, List.set_cons_succ, i64_w, i32_w]
    rfl
  refine pure_ (i := 2) (N := (some 35)) (v := ?_) (a' := ?_) #[true, false, true, false, false, false, false, false, false, false, false, false, false, false, false, false, false, false] rfl rfl (by kernel_rfl) (fun _ _ _ h => h) (Or.inl ⟨by rfl, ?_⟩) ?_ ?_
  rotate_left
  · intro w'
    go_simp
    with_reducible rfl
  rotate_left
  · simp only [Act.put, List.setIfInBounds_toArray, List.set_cons_zero, List.set_cons_succ, i64_w, i32_w]
    rfl
  refine pure_ (i := 3) (N := (some 36)) (v := ?_) (a' := ?_) #[true, false, true, true, false, false, false, false, false, false, false, false, false, false, false, false, false, false] rfl rfl (by kernel_rfl) (fun _ _ _ h => h) (Or.inl ⟨by rfl, ?_⟩) ?_ ?_
  rotate_left
  · intro w'
    go_simp
    with_reducible rfl
  rotate_left
  · simp only [Act.put, List.setIfInBounds_toArray, List.set_cons_zero, List.set_cons_succ, i64_w, i32_w]
    rfl
  refine pure_ (i := 4) (N := (some 37)) (v := ?_) (a' := ?_) #[true, false, true, true, true, false, false, false, false, false, false, false, false, false, false, false, false, false] rfl rfl (by kernel_rfl) (fun _ _ _ h => h) (Or.inl ⟨by rfl, ?_⟩) ?_ ?_
  rotate_left
  · intro w'
    go_simp
    with_reducible rfl
  rotate_left
  · simp only [Act.put, List.setIfInBounds_toArray, List.set_cons_zero, List.set_cons_succ, i64_w, i32_w]
    rfl
  refine pure_ (i := 6) (N := (some 39)) (v := ?_) (a' := ?_) #[true, false, true, true, true, false, true, false, false, false, false, false, false, false, false, false, false, false] rfl rfl (by kernel_rfl) (fun _ _ _ h => h) (Or.inl ⟨by rfl, ?_⟩) ?_ ?_
  rotate_left
  · intro w'
    go_simp
    with_reducible rfl
  rotate_left
  · simp only [Act.put, List.setIfInBounds_toArray, List.set_cons_zero, List.set_cons_succ, i64_w, i32_w]
    rfl
  refine pure_ (i := 7) (N := (some 40)) (v := ?_) (a' := ?_) #[true, false, true, true, true, false, true, true, false, false, false, false, false, false, false, false, false, false] rfl rfl (by kernel_rfl) (fun _ _ _ h => h) (Or.inl ⟨by rfl, ?_⟩) ?_ ?_
  rotate_left
  · intro w'
    go_simp
    with_reducible rfl
  rotate_left
  · simp only [Act.put, List.setIfInBounds_toArray, List.set_cons_zero, List.set_cons_succ, i64_w, i32_w]
    rfl
  refine pure_ (i := 8) (N := (some 41)) (v := ?_) (a' := ?_) #[true, false, true, true, true, false, true, true, true, false, false, false, false, false, false, false, false, false] rfl rfl (by kernel_rfl) (fun _ _ _ h => h) (Or.inl ⟨by rfl, ?_⟩) ?_ ?_
  rotate_left
  · intro w'
    go_simp
    with_reducible rfl
  rotate_left
  · simp only [Act.put, List.setIfInBounds_toArray, List.set_cons_zero, List.set_cons_succ, i64_w, i32_w]
    rfl
  refine pure_ (i := 10) (N := (some 43)) (v := ?_) (a' := ?_) #[true, false, true, true, true, false, true, true, true, false, true, false, false, false, false, false, false, false] rfl rfl (by kernel_rfl) (fun _ _ _ h => h) (Or.inl ⟨by rfl, ?_⟩) ?_ ?_
  rotate_left
  · intro w'
    go_simp
    with_reducible rfl
  rotate_left
  · simp only [Act.put, List.setIfInBounds_toArray, List.set_cons_zero, List.set_cons_succ, i64_w, i32_w]
    rfl
  refine one_ (i := 1) (N := (some 34)) #[true, true, true, true, true, false, true, true, true, false, true, false, false, false, false, false, false, false] rfl rfl (by kernel_rfl) (by decide) (fun K hK => ?_)
  refine Kd.R_lit_step k27 _ 27 ?hg (N := 34) ?hd (xs := ([] : List TPair)) (inner := []) (ok := fun _ => True) (okp := fun _ => True) ?hr ?hp (fun _ hk => hk) trivial (Below.refl _ _) (Nat.le_refl _) (by simp) ?_
  case hd => rfl
  case hg => rfl
  case hr => first | (go_simp; done) | (go_simp; rfl)
  case hp => exact (Reps.none _ _)
  intro v0 wa ho hb _ _
  have HX0 := Aside0.mk ho
  have HBa := Aside0.mk hb
  clear ho hb
  refine hK.out _ _ trivial (fun hHeld => ?_)
  clear hK K
  refine norm_ (a' := ?_) ?_ ?_
  rotate_left
  · show Act.put _ (some 34) _ = _
    simp only [Act.put, List.setIfInBounds_toArray, List.set_cons_zero, List.set_cons_succ, i64_w, i32_w]
    rfl
  obtain ⟨A0_, c0_, rfl⟩ := Kd.R_slice HX0.out
  refine one_ (i := 5) (N := (some 38)) #[true, true, true, true, true, true, true, true, true, false, true, false, false, false, false, false, false, false] rfl rfl (by kernel_rfl) (by decide) (fun K hK => ?_)
  refine Kd.R_append_rows_step k27 (w0 := wd) wd.heap.size (by rfl) (.tmp 34) (.tmp 37) 24 27 (.agg #[(.int .i64 0), (.int .i64 0)]) 16 rfl Try.underlying24 infoPair rfl (by decide) (by omega) (.slice A0_ ([] : List TPair).length c0_) [] d1 _ _ _ (fun _ => True) (fun _ => False) rfl rfl HX0.out (Kd.C_below HC1.out HBa.out) (fun _ _ h => h) (fun _ h => h.elim) (fun _ _ => trivial) HBa.out HBa.out.size ?aL ?_
  case aL => have := HPL.out; have := HYL.out; first | omega | (simp; omega)
  intro v1 wc ho hb _ _
  rw [HY1.out] at ho
  have HX1 := Aside0.mk ho
  have HBc := Aside0.mk hb
  clear ho hb
  refine hK.out _ _ trivial (fun hHeld => ?_)
  clear hK K
  refine norm_ (a' := ?_) ?_ ?_
  rotate_left
  · show Act.put _ (some 38) _ = _
    simp only [Act.put, List.setIfInBounds_toArray, List.set_cons_zero, List.set_cons_succ, i64_w, i32_w]
    rfl
  obtain ⟨A1_, c1_, rfl⟩ := Kd.R_slice HX1.out
  refine one_ (i := 9) (N := (some 42)) #[true, true, true, true, true, true, true, true, true, true, true, false, false, false, false, false, false, false] rfl rfl (by kernel_rfl) (by decide) (fun K hK => ?_)
  refine Kd.R_append_rows_step k27 (w0 := wd) wd.heap.size (by rfl) (.tmp 38) (.tmp 41) 24 27 (.agg #[(.int .i64 0), (.int .i64 0)]) 16 rfl Try.underlying24 infoPair rfl (by decide) (by omega) (.slice A1_ y1.length c1_) y1 d2 _ _ _ (fun _ => True) (fun _ => False) rfl rfl HX1.out (Kd.C_below HC2.out HBc.out) (fun _ _ h => h) (fun _ h => h.elim) (fun _ _ => trivial) HBc.out HBc.out.size ?aL ?_
  case aL => have := HPL.out; have := HYL.out; first | omega | (simp; omega)
  intro v2 wf ho hb _ _
  rw [HY2.out] at ho
  have HX2 := Aside0.mk ho
  have HBf := Aside0.mk hb
  clear ho hb
  refine hK.out _ _ trivial (fun hHeld => ?_)
  clear hK K
  refine norm_ (a' := ?_) ?_ ?_
  rotate_left
  · show Act.put _ (some 42) _ = _
    simp only [Act.put, List.setIfInBounds_toArray, List.set_cons_zero, List.set_cons_succ, i64_w, i32_w]
    rfl
  obtain ⟨A2_, c2_, rfl⟩ := Kd.R_slice HX2.out
  refine one_ (i := 11) (N := (some 44)) #[true, true, true, true, true, true, true, true, true, true, true, true, false, false, false, false, false, false] rfl rfl (by kernel_rfl) (by decide) (fun K hK => ?_)
  refine Kd.R_append_rows_step k27 (w0 := wd) wd.heap.size (by rfl) (.tmp 42) (.tmp 43) 24 27 (.agg #[(.int .i64 0), (.int .i64 0)]) 16 rfl Try.underlying24 infoPair rfl (by decide) (by omega) (.slice A2_ y2.length c2_) y2 p _ _ _ (fun _ => True) (fun _ => False) rfl rfl HX2.out (Kd.C_below HC3.out HBf.out) (fun _ _ h => h) (fun _ h => h.elim) (fun _ _ => trivial) HBf.out HBf.out.size ?aL ?_
  case aL => have := HPL.out; have := HYL.out; first | omega | (simp; omega)
  intro v3 we ho hb _ _
  rw [HY3.out] at ho
  have HX3 := Aside0.mk ho
  have HBe := Aside0.mk hb
  clear ho hb
  refine hK.out _ _ trivial (fun hHeld => ?_)
  clear hK K
  refine norm_ (a' := ?_) ?_ ?_
  rotate_left
  · show Act.put _ (some 44) _ = _
    simp only [Act.put, List.setIfInBounds_toArray, List.set_cons_zero, List.set_cons_succ, i64_w, i32_w]
    rfl
  obtain ⟨A3, c3, rfl⟩ := Kd.R_slice HX3.out
  refine one_ (i := 12) (N := (some 45)) #[true, true, true, true, true, true, true, true, true, true, true, true, true, false, false, false, false, false] rfl rfl (by kernel_rfl) (by decide) (fun K hK => ?_)
  refine goes_ Try.func26 (by kernel_rfl) rfl #[.pointer (some ⟨gt, 0, none⟩), .slice A3 y3.length c3] (by rfl) rfl rfl (by (try simp only [List.map_toArray, List.map_cons, List.map_nil]); first | done | rfl | (simp only [List.length_drop, List.length_take]; rfl)) ?_
  refine (put_calls gt ft2 [r] A3 c3 y3 _ (HTd.out.below HBe.out) (Kd.R_reads' HX3.out).2.2 (Kd.R_reads' HX3.out).2.1 (by have := HYL.out; omega) (by simp)).mono ?_
  rintro e w6 ⟨rfl, ft3, ht6, _, hj6, hf6⟩
  refine ⟨_, rfl, ?_⟩
  rw [HRR.out, HPI.out.2] at ht6
  rw [HRR.out, HPI.out.1, HPD.out]
  have HT6 := Aside0.mk ht6
  have HB6 : Aside0 (Below w.heap.size w w6) := ⟨(below_then HBd.out HBd.out.size HBe.out).trans (hf6.base (Nat.le_trans HBd.out.size HBe.out.size) HSd.out)⟩
  have HO6 : Aside0 (Kd.R k27 27 w6 w2.heap.size (fun k => w2.heap.size ≤ k ∧ k < w4.heap.size) (.slice Ap p.length cp) p) := ⟨Kd.R_step (Kd.R_below HOd.out HBe.out) (fun k hk hlt => hf6.kept.2 k hlt (fun hf => HFd.out k hf hk.1 hk.2))⟩
  clear ht6 hj6 hf6
  refine hK.out _ _ trivial (fun hHeld => ?_)
  clear hK K
  refine norm_ (a' := ?_) ?_ ?_
  rotate_left
  · show Act.put _ (some 45) _ = _
    simp only [Act.put, List.setIfInBounds_toArray, List.set_cons_zero, List.set_cons_succ, i64_w, i32_w]
    rfl
  refine pure_ (i := 13) (N := (some 32)) (v := ?_) (a' := ?_) #[true, true, true, true, true, true, true, true, true, true, true, true, true, true, false, false, false, false] rfl rfl (by kernel_rfl) (fun _ _ _ h => h) (Or.inl ⟨by rfl, ?_⟩) ?_ ?_
  rotate_left
  · intro w'
    go_simp
    with_reducible rfl
  rotate_left
  · simp only [Act.put, List.setIfInBounds_toArray, List.set_cons_zero, List.set_cons_succ, i64_w, i32_w]
    rfl
  refine pure_ (i := 14) (N := (some 46)) (v := ?_) (a' := ?_) #[true, true, true, true, true, true, true, true, true, true, true, true, true, true, true, false, false, false] rfl rfl (by kernel_rfl) (fun _ _ _ h => h) (Or.inl ⟨by rfl, ?_⟩) ?_ ?_
  rotate_left
  · intro w'
    go_simp
    with_reducible rfl
  rotate_left
  · simp only [Act.put, List.setIfInBounds_toArray, List.set_cons_zero, List.set_cons_succ, i64_w, i32_w]
    rfl
  refine pure_ (i := 15) (N := (some 47)) (v := ?_) (a' := ?_) #[true, true, true, true, true, true, true, true, true, true, true, true, true, true, true, true, false, false] rfl rfl (by kernel_rfl) (fun _ _ _ h => h) (Or.inl ⟨by rfl, ?_⟩) ?_ ?_
  rotate_left
  · intro w'
    go_simp
    with_reducible rfl
  rotate_left
  · simp only [Act.put, List.setIfInBounds_toArray, List.set_cons_zero, List.set_cons_succ, i64_w, i32_w]
    rfl
  refine pure_ (i := 16) (N := (some 10)) (v := ?_) (a' := ?_) #[true, true, true, true, true, true, true, true, true, true, true, true, true, true, true, true, true, false] rfl rfl (by kernel_rfl) (fun _ _ _ h => h) (Or.inl ⟨by rfl, ?_⟩) ?_ ?_
  rotate_left
  · intro w'
    go_simp
    with_reducible rfl
  rotate_left
  · simp only [Act.put, List.setIfInBounds_toArray, List.set_cons_zero, List.set_cons_succ, i64_w, i32_w]
    rfl
  refine pure_ (i := 17) (N := (some 11)) (v := ?_) (a' := ?_) #[true, true, true, true, true, true, true, true, true, true, true, true, true, true, true, true, true, true] rfl rfl (by kernel_rfl) (fun _ _ _ h => h) (Or.inl ⟨by rfl, ?_⟩) ?_ ?_
  rotate_left
  · intro w'
    go_simp
    with_reducible rfl
  rotate_left
  · simp only [Act.put, List.setIfInBounds_toArray, List.set_cons_zero, List.set_cons_succ, i64_w, i32_w]
    rfl
  refine done_ (by kernel_rfl) ?_
  clear q53 t0 hcut53 hcut54
  go_wp2_with (first
    | (go_at_call 16; go_loud (refine (sets_Pairs.calls Ap cp p r _ (Kd.R_reads' HO6.out).2.2 (Kd.R_reads' HO6.out).2.1 HSP.out).mono ?_; rintro e w7 ⟨v7, rfl, hv7, hb7⟩; obtain ⟨A7, c7, rfl⟩ := Kd.V_slice hv7; have HV7 := Aside0.mk hv7; have HT7 := Aside0.mk (HT6.out.below hb7); have HB7 := Aside0.mk (below_then HB6.out HB6.out.size hb7); clear hv7 hb7))
    | (go_at_call 27; go_loud (refine (Find_calls gt ft3 [r] A7 c7 r _ HT7.out (Kd.V_reads' HV7.out).2.2 (Kd.V_reads' HV7.out).2.1 (by have := HRL.out; omega) (by simp)).mono ?_; rintro e w8 ⟨rfl, hb8⟩; rw [HFI.out.1, HFI.out.2]; have HT8 := Aside0.mk (HT7.out.below hb8); have HB8 := Aside0.mk (below_then HB7.out HB7.out.size hb8); clear hb8))
    | (go_at_call 28; go_loud (refine (len_calls gt ft3 [r] _ HT8.out).mono ?_; rintro e w9 ⟨rfl, rfl⟩)))
  go_ret
  exact ⟨rfl, HB8.out⟩
theorem canopylaw2_SetsOrders.walk (P : canopylaw2_SetsOrders.Pure) (a0 : Option Addr) (len0 cap0 : Nat) (z0 : List Int) (a1 : Int) (w : World) (w0 : (a0 = none ∧ len0 = 0 ∧ cap0 = 0 ∧ z0 = []) ∨ ∃ x, a0 = some x ∧ len0 ≤ cap0 ∧ cap0 ≤ maxLen ∧ z0.length = cap0 ∧ (∀ i, i < z0.length → w.cell? (x.add i) = some (.int .i64 (z0.getD i 0))) ∧ ∀ n ∈ z0, (Lit.int .i64 n).wf = true) (y0 : len0 * 8 ≤ 140737488351232) (w1 : (Lit.int .i64 a1).wf = true) :
    Calls Try.prog 6 #[.slice a0 len0 cap0, .int .i64 a1] w fun e w' => e = .returned (.bool true) ∧ Below w.heap.size w w' := by
  obtain ⟨l0, rfl, hr0, hm0, hw0, hc0⟩ := ReadsInt.ofRowC w0
  exact canopylaw2_SetsOrders.calls _ _ l0 a1 w (Kd.C_of_reads (d := (0 : Int)) (h1 := fun _ => rfl) hr0) hc0
end Go.Proofs.Ytmkpfamngedcmaa.P
