/- SetsKeeps, walked by hand: a table keeps its own rows. -/
import Derived.Test.YtmkpfamngedcmaaLApart
set_option linter.unusedVariables false
set_option linter.unusedSimpArgs false
set_option linter.unnecessarySimpa false
namespace Go.Proofs.Ytmkpfamngedcmaa.P
open Go.RowKit Go.Proofs.YtmkpfamngedcmaaW.PrintWords Go.Proofs.YtmkpfamngedcmaaW.PrintLast Go.Proofs.YtmkpfamngedcmaaW.PrintMore Go.Proofs.Ytmkpfamngedcmaa.M Go.Proofs.Ytmkpfamngedcmaa.Pure

/-- n pairs of numbers, whichever, stand at a row's own block -/
def IntsAt (w : World) (A : Option Addr) (n : Nat) : Prop := n = 0 ∨ ∃ g cur, A = some ⟨g, 0, none⟩ ∧ w.heap[g]? = some (.cells cur 27 (0, 0)) ∧ n * 2 ≤ cur.size ∧ ∀ j, j < n * 2 → ∃ v, cur[j]? = some (.int .i64 v)
theorem IntsAt.of_R {w : World} {base : Nat} {ok : Nat → Prop} {A : Option Addr} {c : Nat} {l : List TPair} (h : Kd.R k27 27 w base ok (.slice A l.length c) l) : IntsAt w A l.length := by
  rcases Nat.eq_zero_or_pos l.length with hz | hp
  · exact .inl hz
  · obtain ⟨inner, ho⟩ := Kd.R_own h
    have hC := (Kd.R_reads' h).2.2
    obtain ⟨ad, eA, _, _⟩ := at_T27 hC 0 (Int.le_refl _) (by omega)
    subst eA
    obtain ⟨g, cur, rfl, _, hb, hn, _, hs, _⟩ := row_block ho
    refine .inr ⟨g, cur, rfl, hb, by have : k27.sz = 2 := rfl; rw [hs, this]; omega, fun j hj => ?_⟩
    obtain ⟨ad2, e2, h1, h2⟩ := at_T27 hC ((j / 2 : Nat) : Int) (by omega) (by omega)
    cases e2
    rw [Int.toNat_natCast, add_plain] at h1 h2
    rw [blk_cell hb] at h1 h2
    rcases Nat.mod_two_eq_zero_or_one j with e | e
    · exact ⟨_, by rw [show j = j / 2 * 2 by omega]; exact h1⟩
    · exact ⟨_, by rw [show j = j / 2 * 2 + 1 by omega]; exact h2⟩
theorem IntsAt.move {w w' : World} {A : Option Addr} {n : Nat} (h : IntsAt w A n) (hm : ∀ g, A = some ⟨g, 0, none⟩ → g < w.heap.size → w'.heap[g]? = w.heap[g]?) : IntsAt w' A n := by
  rcases h with h | ⟨g, cur, e, hb, hs, hc⟩
  · exact .inl h
  · exact .inr ⟨g, cur, e, (hm g e (blk_lt hb)).trans hb, hs, hc⟩
theorem IntsAt.at_ {w : World} {g : Nat} {n : Nat} (h : IntsAt w (some ⟨g, 0, none⟩) n) (i : Nat) (hi : i < n) : ∃ x y, w.cell? ⟨g, i * 2, none⟩ = some (.int .i64 x) ∧ w.cell? ⟨g, i * 2 + 1, none⟩ = some (.int .i64 y) ∧ (∀ o, w.frozen? ⟨g, o, none⟩ = false) ∧
    (∀ v, IntsAt (w.setCell ⟨g, i * 2, none⟩ (.int .i64 v)) (some ⟨g, 0, none⟩) n) ∧ ∀ v, IntsAt (w.setCell ⟨g, i * 2 + 1, none⟩ (.int .i64 v)) (some ⟨g, 0, none⟩) n := by
  rcases h with h | ⟨g', cur, e, hb, hs, hc⟩
  · omega
  · cases e
    obtain ⟨x, hx⟩ := hc (i * 2) (by omega)
    obtain ⟨y, hy⟩ := hc (i * 2 + 1) (by omega)
    have hset : ∀ (o : Nat) (v : Int), o < n * 2 → IntsAt (w.setCell ⟨g, o, none⟩ (.int .i64 v)) (some ⟨g, 0, none⟩) n := fun o v ho => by
      refine .inr ⟨g, _, rfl, blk_set hb o _, by simpa using hs, fun j hj => ?_⟩
      obtain ⟨z, hz⟩ := hc j hj
      by_cases e : o = j
      · subst e; exact ⟨v, by rw [Array.getElem?_setIfInBounds_self_of_lt (by omega)]⟩
      · exact ⟨z, by rw [Array.getElem?_setIfInBounds_ne e]; exact hz⟩
    exact ⟨x, y, (blk_cell hb _).trans hx, (blk_cell hb _).trans hy, fun o => blk_frozen hb o, fun v => hset _ v (by omega), fun v => hset _ v (by omega)⟩
theorem rowR_at1 (a b : List TPair) : rowR [a, b] 1 = b := rfl
def canopylaw2_SetsKeeps.Pure : Prop := True
set_option maxHeartbeats 16000000 in
set_option maxRecDepth 100000 in
theorem canopylaw2_SetsKeeps.calls (A0 : Option Addr) (c0 : Nat) (l0 : List Int) (A1 : Option Addr) (c1 : Nat) (l1 : List Int) (a2 : Int) (w : World) (hr0 : Kd.C (Kd.int .i64) w A0 l0.length l0) (hc0 : l0.length ≤ c0) (hr1 : Kd.C (Kd.int .i64) w A1 l1.length l1) (hc1 : l1.length ≤ c1) :
    Calls Try.prog 8 #[.slice A0 l0.length c0, .slice A1 l1.length c1, .int .i64 a2] w fun e w' => e = .returned (.bool true) ∧ Below w.heap.size w w' := by
  obtain ⟨kp, hkp⟩ := Ev.rounds (ev_pairsE l0 12 (by omega))
  obtain ⟨kq, hkq⟩ := Ev.rounds (ev_pairsE l1 12 (by omega))
  have hpl : (pairsE l0 12).length ≤ 12 := pairsE_len l0 12
  have hql : (pairsE l1 12).length ≤ 12 := pairsE_len l1 12
  generalize pairsE l0 12 = p at hkp hpl
  generalize pairsE l1 12 = q at hkq hql
  obtain ⟨rp, hrp⟩ : ∃ r, r = onceC cmpPair p := ⟨_, rfl⟩
  obtain ⟨rq, hrq⟩ : ∃ r, r = onceC cmpPair q := ⟨_, rfl⟩
  obtain ⟨ka, hka⟩ := Ev.rounds (ev_Pairs p (by omega))
  obtain ⟨kb, hkb⟩ := Ev.rounds (ev_Pairs q (by omega))
  have hpl2 : rp.length ≤ 12 := by rw [hrp]; exact Nat.le_trans (once_len totalPair p) hpl
  have hql2 : rq.length ≤ 12 := by rw [hrq]; exact Nat.le_trans (once_len totalPair q) hql
  rw [← hrp] at hka
  rw [← hrq] at hkb
  obtain ⟨kc, hkc⟩ := Ev.rounds (ev_Same rp rp (by omega))
  obtain ⟨kd, hkd⟩ := Ev.rounds (ev_Same rq rq (by omega))
  obtain ⟨ke, hke⟩ := Ev.rounds (ev_Same rp rq (by omega))
  rw [decide_eq_true rfl] at hkc hkd
  obtain ⟨rows2, bI, sB, hpr, hpi, hpd, hrb, hse, hin2, hr2l, hrow0, hidx⟩ : ∃ (rows2 : List (List TPair)) (bI : Int) (sB : Bool), putR [rp] rq = rows2 ∧ putI [rp] rq = bI ∧ decide (rq ∉ [rp]) = !sB ∧ rowR rows2 bI = rq ∧ decide (rp = rq) = sB ∧ rp ∈ rows2 ∧ rows2.length ≤ 2 ∧ rowR rows2 0 = rp ∧ rows2.idxOf rp = 0 := by
    by_cases e : rp = rq
    · refine ⟨[rp], 0, true, ?_, ?_, ?_, ?_, ?_, ?_, ?_, ?_, ?_⟩
      · unfold putR; rw [if_pos (by rw [e]; simp)]
      · unfold putI; rw [if_pos (by rw [e]; simp), e]; simp
      · simp [e]
      · rw [row0]; exact e
      · simp [e]
      · simp
      · simp
      · exact row0 _ _
      · simp
    · refine ⟨[rp, rq], 1, false, ?_, ?_, ?_, ?_, ?_, ?_, ?_, ?_, ?_⟩
      · unfold putR; rw [if_neg (by simpa using fun h => e h.symm)]; rfl
      · unfold putI; rw [if_neg (by simpa using fun h => e h.symm)]; rfl
      · simpa using fun h => e h.symm
      · exact rowR_at1 _ _
      · simp [e]
      · simp
      · simp
      · exact row0 _ _
      · simp
  have HP0 : Aside0 (putI [] (onceC cmpPair p) = 0 ∧ putR [] (onceC cmpPair p) = [rp]) := ⟨by unfold putI; rw [if_neg (by simp)]; simp, by unfold putR; rw [if_neg (by simp), hrp]; rfl⟩
  have HF0 : Aside0 ((if onceC cmpPair p ∈ rows2 then ((rows2.idxOf (onceC cmpPair p) : Nat) : Int) else 0) = 0 ∧ decide (onceC cmpPair p ∈ rows2) = true) := ⟨by rw [← hrp, if_pos hin2, hidx]; rfl, by rw [← hrp]; exact decide_eq_true hin2⟩
  have HRQ := Aside0.mk hrq.symm
  have HPQ := Aside0.mk (And.intro hpr (And.intro hpi (And.intro hpd (And.intro hrb (And.intro hr2l hrow0)))))
  rw [hse] at hke
  have HK := Aside0.mk (And.intro hkp (And.intro hkq (And.intro hka (And.intro hkb (And.intro hkc (And.intro hkd hke))))))
  have HL := Aside0.mk (And.intro hpl (And.intro hql (And.intro hpl2 hql2)))
  have HA := Aside0.mk (And.intro hr0 (And.intro hc0 (And.intro hr1 hc1)))
  clear hkp hkq hpl hql hrp hrq hka hkb hkc hkd hke hpl2 hql2 hr0 hc0 hr1 hc1 hpr hpi hpd hrb hse hin2 hr2l hrow0 hidx
  have m0 : (p.length : Int) ≤ 12 := by have := HL.out; omega
  have m1 : (rp.length : Int) ≤ 12 := by have := HL.out; omega
  go_enter Try.func8, Try.ntmps8
  go_wp2_with fail
  refine (canopylaw2_known.calls true _ rfl).mono ?_
  rintro e w1 ⟨rfl, hb1⟩
  have HB_1 := Aside0.mk (hb1)
  clear hb1
  go_wp2_with fail
  refine (new_calls _).mono ?_
  rintro e w2 ⟨gt, ft, rfl, ht2, hs2, hb2⟩
  have HS : Aside0 (∀ k, ft k → w.heap.size ≤ k) := ⟨fun k hk => Nat.le_trans HB_1.out.size (hs2 k hk)⟩
  have HB_2 := Aside0.mk (below_then HB_1.out HB_1.out.size hb2)
  clear HB_1
  have HT_3 := Aside0.mk (ht2)
  clear ht2 hs2 hb2
  have HB2_ : Aside0 (w.heap.size ≤ w2.heap.size) := ⟨HB_2.out.size⟩
  go_wp2_with fail
  refine (canopylaw2_Pairs.calls kp _ _ l0 12 p _ (Kd.C_below HA.out.1 HB_2.out) HA.out.2.1 HK.out.1).mono ?_
  rintro e w3 ⟨v_, rfl, ho_, hb_⟩
  obtain ⟨Ap, cp, rfl⟩ := Kd.R_slice ho_
  have HDp : Aside0 (∀ k, (w2.heap.size ≤ k ∧ k < w3.heap.size) → ¬ ft k) := ⟨fun k hk hf => by have := HT_3.out.lt_ k hf; omega⟩
  have HZp : Aside0 (w2.heap.size ≤ w3.heap.size) := ⟨hb_.size⟩
  have HB_4 := Aside0.mk (below_then HB_2.out HB_2.out.size hb_)
  have HT_5 := Aside0.mk (HT_3.out.below hb_)
  clear HB_2 HT_3
  have Hp_6 := Aside0.mk (Kd.R_mono (Kd.R_bound ho_) (fun k hk => (⟨hk.2.1, hk.2.2.1⟩ : w2.heap.size ≤ k ∧ k < w3.heap.size)))
  clear ho_ hb_
  go_wp2_with fail
  refine (canopylaw2_Pairs.calls kq _ _ l1 12 q _ (Kd.C_below HA.out.2.2.1 HB_4.out) HA.out.2.2.2 HK.out.2.1).mono ?_
  rintro e w4 ⟨v_, rfl, ho_, hb_⟩
  obtain ⟨Aq, cq, rfl⟩ := Kd.R_slice ho_
  have HDq : Aside0 (∀ k, (w3.heap.size ≤ k ∧ k < w4.heap.size) → ¬ ft k) := ⟨fun k hk hf => by have := HT_5.out.lt_ k hf; omega⟩
  have HZq : Aside0 (w3.heap.size ≤ w4.heap.size) := ⟨hb_.size⟩
  have HB_7 := Aside0.mk (below_then HB_4.out HB_4.out.size hb_)
  have HT_8 := Aside0.mk (HT_5.out.below hb_)
  have Hp_9 := Aside0.mk (Kd.R_below Hp_6.out hb_)
  clear HB_4 HT_5 Hp_6
  have Hq_10 := Aside0.mk (Kd.R_mono (Kd.R_bound ho_) (fun k hk => (⟨hk.2.1, hk.2.2.1⟩ : w3.heap.size ≤ k ∧ k < w4.heap.size)))
  clear ho_ hb_
  have HZ_w4 : Aside0 (w4.heap.size ≤ w4.heap.size) := ⟨Nat.le_refl _⟩
  go_wp2_with fail
  refine (put_calls gt ft [] Ap cp p _ HT_8.out (Kd.R_reads' Hp_9.out).2.2 (Kd.R_reads' Hp_9.out).2.1 (by have := HL.out; omega) (by simp)).mono ?_
  rintro e w5 ⟨rfl, f5, ht_, hi_, hj_, hf_⟩
  rw [HP0.out.2] at ht_
  rw [HP0.out.1]
  have HSf5 : Aside0 (∀ k, f5 k → w.heap.size ≤ k) := ⟨fun k hk => (hj_ k hk).elim (HS.out k) (fun h => Nat.le_trans HB_7.out.size h)⟩
  have HDpf5 : Aside0 (∀ k, (w2.heap.size ≤ k ∧ k < w3.heap.size) → ¬ f5 k) := ⟨dis_step (n := w4.heap.size) HDp.out (fun k hk => by have := HZq.out; have := HZ_w4.out; omega) hj_⟩
  have Hp_11 := Aside0.mk (Kd.R_step Hp_9.out (fun k hk hlt => hf_.kept.2 k hlt (HDp.out k hk)))
  clear Hp_9
  have HDqf5 : Aside0 (∀ k, (w3.heap.size ≤ k ∧ k < w4.heap.size) → ¬ f5 k) := ⟨dis_step (n := w4.heap.size) HDq.out (fun k hk => by have := HZq.out; have := HZ_w4.out; omega) hj_⟩
  have Hq_12 := Aside0.mk (Kd.R_step Hq_10.out (fun k hk hlt => hf_.kept.2 k hlt (HDq.out k hk)))
  clear Hq_10
  have HB_13 : Aside0 (Below w.heap.size w w5) := ⟨HB_7.out.trans (hf_.base HB_7.out.size HS.out)⟩
  clear HB_7
  have HT_14 := Aside0.mk (ht_)
  clear HT_8
  have HZ_w5 : Aside0 (w4.heap.size ≤ w5.heap.size) := ⟨Nat.le_trans HZ_w4.out hf_.kept.1⟩
  clear ht_ hi_ hj_ hf_
  go_wp2_with fail
  refine (put_calls gt f5 [rp] Aq cq q _ HT_14.out (Kd.R_reads' Hq_12.out).2.2 (Kd.R_reads' Hq_12.out).2.1 (by have := HL.out; omega) (by simp)).mono ?_
  rintro e w6 ⟨rfl, f6, ht_, hi_, hj_, hf_⟩
  rw [HRQ.out, HPQ.out.1] at ht_
  rw [HRQ.out, HPQ.out.2.1, HPQ.out.2.2.1]
  have HSf6 : Aside0 (∀ k, f6 k → w.heap.size ≤ k) := ⟨fun k hk => (hj_ k hk).elim (HSf5.out k) (fun h => Nat.le_trans HB_13.out.size h)⟩
  have HDpf6 : Aside0 (∀ k, (w2.heap.size ≤ k ∧ k < w3.heap.size) → ¬ f6 k) := ⟨dis_step (n := w5.heap.size) HDpf5.out (fun k hk => by have := HZq.out; have := HZ_w5.out; omega) hj_⟩
  have Hp_15 := Aside0.mk (Kd.R_step Hp_11.out (fun k hk hlt => hf_.kept.2 k hlt (HDpf5.out k hk)))
  clear Hp_11
  have HDqf6 : Aside0 (∀ k, (w3.heap.size ≤ k ∧ k < w4.heap.size) → ¬ f6 k) := ⟨dis_step (n := w5.heap.size) HDqf5.out (fun k hk => by have := HZq.out; have := HZ_w5.out; omega) hj_⟩
  have Hq_16 := Aside0.mk (Kd.R_step Hq_12.out (fun k hk hlt => hf_.kept.2 k hlt (HDqf5.out k hk)))
  clear Hq_12
  have HB_17 : Aside0 (Below w.heap.size w w6) := ⟨HB_13.out.trans (hf_.base HB_13.out.size HSf5.out)⟩
  clear HB_13
  have HT_18 := Aside0.mk (ht_)
  clear HT_14
  have HZ_w6 : Aside0 (w4.heap.size ≤ w6.heap.size) := ⟨Nat.le_trans HZ_w5.out hf_.kept.1⟩
  clear ht_ hi_ hj_ hf_
  have HIp := Aside0.mk (IntsAt.of_R Hp_15.out)
  have HOkp := Aside0.mk (Hp_15.out.1)
  clear Hp_15
  go_wp2
  go_loopg [14] p.length (fun gq v14 w' => ∃ i : Nat, v14 = .int .i64 (i : Int) ∧ Aside0 (i ≤ p.length ∧ p.length - i ≤ gq) ∧ Aside0 (IntsAt w' Ap p.length) ∧ Aside0 (Fr (fun k => some k = (Value.slice Ap p.length cp).ownBlock) w6 w'))
  case atStart => exact ⟨0, rfl, ⟨by omega, by omega⟩, HIp, ⟨Fr.refl _ _⟩⟩
  case round =>
    obtain ⟨i, rfl, Hi, HIw, HFw⟩ := hrel
    by_cases hlt : i < p.length
    · have HLT := Aside0.mk hlt
      obtain ⟨g, eA⟩ : ∃ g, Ap = some ⟨g, 0, none⟩ := by
        rcases HIw.out with h | ⟨g, _, e, _⟩
        · omega
        · exact ⟨g, e⟩
      subst eA
      obtain ⟨x, y, cx, cy, fz, sx, sy⟩ := IntsAt.at_ HIw.out i hlt
      have HX := Aside0.mk sx
      have HY := Aside0.mk sy
      have fz0 := fz (i * 2)
      have fz1 := fz (i * 2 + 1)
      have t1 := eq_true hlt
      have t2 := decide_eq_true hlt
      clear sx sy fz hlt
      go_wp2
      go_roundg (p.length - (i + 1))
      case measure => have := Hi.out; have := HLT.out; omega
      case rel => exact ⟨i + 1, by rw [show wrap64 ((i : Int) + 1) = ((i + 1 : Nat) : Int) by have := HLT.out; have := HL.out; unfold wrap64; omega], ⟨HLT.out, Nat.le_refl _⟩, ⟨HX.out _⟩, ⟨HFw.out.set (p := ⟨g, i * 2, none⟩) (.inl rfl) _⟩⟩
    · have t1 := eq_false hlt
      have t2 := decide_eq_false hlt
      clear hlt
      obtain ⟨w7, rfl⟩ : ∃ w7 : World, w7 = wr := ⟨_, rfl⟩
      have HT_19 := Aside0.mk (HT_18.out.apart HFw.out (fun k hk he => HDpf6.out k (HOkp.out k he.symm) hk))
      have Hq_20 := Aside0.mk (Kd.R_step Hq_16.out (fun k hk hlt => HFw.out.kept.2 k hlt (fun he => by have h1 := HOkp.out k he.symm; have h2 := hk.1; omega)))
      have HB_21 : Aside0 (Below w.heap.size w w7) := ⟨HB_17.out.trans (HFw.out.base HB_17.out.size (fun k he => by have h1 := HOkp.out k he.symm; have := HB2_.out; omega))⟩
      have HZ7 : Aside0 (w4.heap.size ≤ w7.heap.size) := ⟨Nat.le_trans HZ_w6.out HFw.out.kept.1⟩
      have HB7_ : Aside0 (w.heap.size ≤ w7.heap.size) := ⟨HB_21.out.size⟩
      clear HT_18 Hq_16 HB_17 HIw HFw HIp Hi
      go_wp2_with fail
      refine (row_calls gt f6 rows2 0 _ HT_19.out).mono ?_
      rintro e w8 ⟨v_, rfl, ho_, hb_⟩
      rw [HPQ.out.2.2.2.2.2] at ho_
      obtain ⟨Ar, cr, rfl⟩ := Kd.R_slice (pairs_R ho_)
      have hr_ := Kd.R_mono (Kd.R_bound (pairs_R ho_)) (fun k hk => (⟨hk.2.1, hk.2.2.1⟩ : w7.heap.size ≤ k ∧ k < w8.heap.size))
      have HDr : Aside0 (∀ k, (w7.heap.size ≤ k ∧ k < w8.heap.size) → ¬ f6 k) := ⟨fun k hk hf => by have := HT_19.out.lt_ k hf; omega⟩
      have HZr : Aside0 (w4.heap.size ≤ w7.heap.size) := ⟨HZ7.out⟩
      have HB_22 := Aside0.mk (below_then HB_21.out HB_21.out.size hb_)
      have HT_23 := Aside0.mk (HT_19.out.below hb_)
      have Hq_24 := Aside0.mk (Kd.R_below Hq_20.out hb_)
      clear HB_21 HT_19 Hq_20
      have Hr_25 := Aside0.mk (hr_)
      clear ho_ hb_ hr_
      have HIr := Aside0.mk (IntsAt.of_R Hr_25.out)
      have HOkr := Aside0.mk (Hr_25.out.1)
      clear Hr_25
      go_wp2
      go_loopg [16] rp.length (fun gq v16 w' => ∃ i : Nat, v16 = .int .i64 (i : Int) ∧ Aside0 (i ≤ rp.length ∧ rp.length - i ≤ gq) ∧ Aside0 (IntsAt w' Ar rp.length) ∧ Aside0 (Fr (fun k => some k = (Value.slice Ar rp.length cr).ownBlock) w8 w'))
      case atStart => exact ⟨0, rfl, ⟨by omega, by omega⟩, HIr, ⟨Fr.refl _ _⟩⟩
      case round =>
        obtain ⟨i, rfl, Hi, HIw, HFw⟩ := hrel
        by_cases hlt : i < rp.length
        · have HLT := Aside0.mk hlt
          obtain ⟨g, eA⟩ : ∃ g, Ar = some ⟨g, 0, none⟩ := by
            rcases HIw.out with h | ⟨g, _, e, _⟩
            · omega
            · exact ⟨g, e⟩
          subst eA
          obtain ⟨x, y, cx, cy, fz, sx, sy⟩ := IntsAt.at_ HIw.out i hlt
          have HX := Aside0.mk sx
          have HY := Aside0.mk sy
          have fz0 := fz (i * 2)
          have fz1 := fz (i * 2 + 1)
          have t1 := eq_true hlt
          have t2 := decide_eq_true hlt
          clear sx sy fz hlt
          go_wp2
          go_roundg (rp.length - (i + 1))
          case measure => have := Hi.out; have := HLT.out; omega
          case rel => exact ⟨i + 1, by rw [show wrap64 ((i : Int) + 1) = ((i + 1 : Nat) : Int) by have := HLT.out; have := HL.out; unfold wrap64; omega], ⟨HLT.out, Nat.le_refl _⟩, ⟨HY.out _⟩, ⟨HFw.out.set (p := ⟨g, i * 2 + 1, none⟩) (.inl rfl) _⟩⟩
        · have t1 := eq_false hlt
          have t2 := decide_eq_false hlt
          clear hlt
          obtain ⟨w9, rfl⟩ : ∃ w9 : World, w9 = wr := ⟨_, rfl⟩
          have HT_26 := Aside0.mk (HT_23.out.apart HFw.out (fun k hk he => HDr.out k (HOkr.out k he.symm) hk))
          have Hq_27 := Aside0.mk (Kd.R_step Hq_24.out (fun k hk hlt => HFw.out.kept.2 k hlt (fun he => by have h1 := HOkr.out k he.symm; have h2 := hk.2; have := HZr.out; omega)))
          have HB_28 : Aside0 (Below w.heap.size w w9) := ⟨HB_22.out.trans (HFw.out.base HB_22.out.size (fun k he => by have h1 := HOkr.out k he.symm; have := HB7_.out; omega))⟩
          clear HT_23 Hq_24 HB_22 HIw HFw HIr Hi
          go_wp2_with fail
          refine (canopylaw2_Pairs.calls kp _ _ l0 12 p _ (Kd.C_below HA.out.1 HB_28.out) HA.out.2.1 HK.out.1).mono ?_
          rintro e w10 ⟨v_, rfl, ho_, hb_⟩
          obtain ⟨An1, cn1, rfl⟩ := Kd.R_slice ho_
          have HB_29 := Aside0.mk (below_then HB_28.out HB_28.out.size hb_)
          have HT_30 := Aside0.mk (HT_26.out.below hb_)
          have Hq_31 := Aside0.mk (Kd.R_below Hq_27.out hb_)
          clear HB_28 HT_26 Hq_27
          have Hn1_32 := Aside0.mk (ho_)
          clear ho_ hb_
          go_wp2_with fail
          refine (Find_calls gt f6 rows2 An1 cn1 p _ HT_30.out (Kd.R_reads' Hn1_32.out).2.2 (Kd.R_reads' Hn1_32.out).2.1 (by have := HL.out; omega) (by have := HPQ.out; omega)).mono ?_
          rintro e w11 ⟨rfl, hb_⟩
          rw [HF0.out.1, HF0.out.2]
          have HB_33 := Aside0.mk (below_then HB_29.out HB_29.out.size hb_)
          have HT_34 := Aside0.mk (HT_30.out.below hb_)
          have Hq_35 := Aside0.mk (Kd.R_below Hq_31.out hb_)
          have Hn1_36 := Aside0.mk (Kd.R_below Hn1_32.out hb_)
          clear HB_29 HT_30 Hq_31 Hn1_32
          clear hb_
          go_wp2_with fail
          refine (row_calls gt f6 rows2 0 _ HT_34.out).mono ?_
          rintro e w12 ⟨v_, rfl, ho_, hb_⟩
          rw [HPQ.out.2.2.2.2.2] at ho_
          obtain ⟨Aa1, ca1, rfl⟩ := Kd.R_slice (pairs_R ho_)
          have HB_37 := Aside0.mk (below_then HB_33.out HB_33.out.size hb_)
          have HT_38 := Aside0.mk (HT_34.out.below hb_)
          have Hq_39 := Aside0.mk (Kd.R_below Hq_35.out hb_)
          have Hn1_40 := Aside0.mk (Kd.R_below Hn1_36.out hb_)
          clear HB_33 HT_34 Hq_35 Hn1_36
          have Ha1_41 := Aside0.mk (pairs_R ho_)
          clear ho_ hb_
          go_wp2_with fail
          refine (canopylaw2_Pairs.calls kp _ _ l0 12 p _ (Kd.C_below HA.out.1 HB_37.out) HA.out.2.1 HK.out.1).mono ?_
          rintro e w13 ⟨v_, rfl, ho_, hb_⟩
          obtain ⟨An2, cn2, rfl⟩ := Kd.R_slice ho_
          have HB_42 := Aside0.mk (below_then HB_37.out HB_37.out.size hb_)
          have HT_43 := Aside0.mk (HT_38.out.below hb_)
          have Hq_44 := Aside0.mk (Kd.R_below Hq_39.out hb_)
          have Hn1_45 := Aside0.mk (Kd.R_below Hn1_40.out hb_)
          have Ha1_46 := Aside0.mk (Kd.R_below Ha1_41.out hb_)
          clear HB_37 HT_38 Hq_39 Hn1_40 Ha1_41
          have Hn2_47 := Aside0.mk (ho_)
          clear ho_ hb_
          go_wp2_with fail
          refine (canopyref2_Pairs.calls ka An2 cn2 p rp _ (Kd.R_reads' Hn2_47.out).2.2 (Kd.R_reads' Hn2_47.out).2.1 HK.out.2.2.1).mono ?_
          rintro e w14 ⟨v_, rfl, ho_, hb_⟩
          obtain ⟨Ab1, cb1, rfl⟩ := Kd.R_slice ho_
          have HB_48 := Aside0.mk (below_then HB_42.out HB_42.out.size hb_)
          have HT_49 := Aside0.mk (HT_43.out.below hb_)
          have Hq_50 := Aside0.mk (Kd.R_below Hq_44.out hb_)
          have Hn1_51 := Aside0.mk (Kd.R_below Hn1_45.out hb_)
          have Ha1_52 := Aside0.mk (Kd.R_below Ha1_46.out hb_)
          have Hn2_53 := Aside0.mk (Kd.R_below Hn2_47.out hb_)
          clear HB_42 HT_43 Hq_44 Hn1_45 Ha1_46 Hn2_47
          have Hb1_54 := Aside0.mk (ho_)
          clear ho_ hb_
          go_wp2_with fail
          refine (canopyref2_Same.calls kc Aa1 ca1 rp Ab1 cb1 rp true _ (Kd.R_reads' Ha1_52.out).2.2 (Kd.R_reads' Ha1_52.out).2.1 (Kd.R_reads' Hb1_54.out).2.2 (Kd.R_reads' Hb1_54.out).2.1 HK.out.2.2.2.2.1).mono ?_
          rintro e w15 ⟨rfl, hd_⟩
          have HB_55 := Aside0.mk (below_then HB_48.out HB_48.out.size hd_.below)
          have HT_56 := Aside0.mk (HT_49.out.below hd_.below)
          have Hq_57 := Aside0.mk (Kd.R_below Hq_50.out hd_.below)
          have Hn1_58 := Aside0.mk (Kd.R_below Hn1_51.out hd_.below)
          have Ha1_59 := Aside0.mk (Kd.R_below Ha1_52.out hd_.below)
          have Hn2_60 := Aside0.mk (Kd.R_below Hn2_53.out hd_.below)
          have Hb1_61 := Aside0.mk (Kd.R_below Hb1_54.out hd_.below)
          clear HB_48 HT_49 Hq_50 Hn1_51 Ha1_52 Hn2_53 Hb1_54
          clear hd_
          go_wp2_with fail
          refine (row_calls gt f6 rows2 bI _ HT_56.out).mono ?_
          rintro e w16 ⟨v_, rfl, ho_, hb_⟩
          rw [HPQ.out.2.2.2.1] at ho_
          obtain ⟨Aa2, ca2, rfl⟩ := Kd.R_slice (pairs_R ho_)
          have HB_62 := Aside0.mk (below_then HB_55.out HB_55.out.size hb_)
          have HT_63 := Aside0.mk (HT_56.out.below hb_)
          have Hq_64 := Aside0.mk (Kd.R_below Hq_57.out hb_)
          have Hn1_65 := Aside0.mk (Kd.R_below Hn1_58.out hb_)
          have Ha1_66 := Aside0.mk (Kd.R_below Ha1_59.out hb_)
          have Hn2_67 := Aside0.mk (Kd.R_below Hn2_60.out hb_)
          have Hb1_68 := Aside0.mk (Kd.R_below Hb1_61.out hb_)
          clear HB_55 HT_56 Hq_57 Hn1_58 Ha1_59 Hn2_60 Hb1_61
          have Ha2_69 := Aside0.mk (pairs_R ho_)
          clear ho_ hb_
          go_wp2_with fail
          refine (canopyref2_Pairs.calls kb Aq cq q rq _ (Kd.R_reads' Hq_64.out).2.2 (Kd.R_reads' Hq_64.out).2.1 HK.out.2.2.2.1).mono ?_
          rintro e w17 ⟨v_, rfl, ho_, hb_⟩
          obtain ⟨Ab2, cb2, rfl⟩ := Kd.R_slice ho_
          have HB_70 := Aside0.mk (below_then HB_62.out HB_62.out.size hb_)
          have HT_71 := Aside0.mk (HT_63.out.below hb_)
          have Hq_72 := Aside0.mk (Kd.R_below Hq_64.out hb_)
          have Hn1_73 := Aside0.mk (Kd.R_below Hn1_65.out hb_)
          have Ha1_74 := Aside0.mk (Kd.R_below Ha1_66.out hb_)
          have Hn2_75 := Aside0.mk (Kd.R_below Hn2_67.out hb_)
          have Hb1_76 := Aside0.mk (Kd.R_below Hb1_68.out hb_)
          have Ha2_77 := Aside0.mk (Kd.R_below Ha2_69.out hb_)
          clear HB_62 HT_63 Hq_64 Hn1_65 Ha1_66 Hn2_67 Hb1_68 Ha2_69
          have Hb2_78 := Aside0.mk (ho_)
          clear ho_ hb_
          go_wp2_with fail
          refine (canopyref2_Same.calls kd Aa2 ca2 rq Ab2 cb2 rq true _ (Kd.R_reads' Ha2_77.out).2.2 (Kd.R_reads' Ha2_77.out).2.1 (Kd.R_reads' Hb2_78.out).2.2 (Kd.R_reads' Hb2_78.out).2.1 HK.out.2.2.2.2.2.1).mono ?_
          rintro e w18 ⟨rfl, hd_⟩
          have HB_79 := Aside0.mk (below_then HB_70.out HB_70.out.size hd_.below)
          have HT_80 := Aside0.mk (HT_71.out.below hd_.below)
          have Hq_81 := Aside0.mk (Kd.R_below Hq_72.out hd_.below)
          have Hn1_82 := Aside0.mk (Kd.R_below Hn1_73.out hd_.below)
          have Ha1_83 := Aside0.mk (Kd.R_below Ha1_74.out hd_.below)
          have Hn2_84 := Aside0.mk (Kd.R_below Hn2_75.out hd_.below)
          have Hb1_85 := Aside0.mk (Kd.R_below Hb1_76.out hd_.below)
          have Ha2_86 := Aside0.mk (Kd.R_below Ha2_77.out hd_.below)
          have Hb2_87 := Aside0.mk (Kd.R_below Hb2_78.out hd_.below)
          clear HB_70 HT_71 Hq_72 Hn1_73 Ha1_74 Hn2_75 Hb1_76 Ha2_77 Hb2_78
          clear hd_
          go_wp2_with fail
          refine (canopylaw2_Pairs.calls kp _ _ l0 12 p _ (Kd.C_below HA.out.1 HB_79.out) HA.out.2.1 HK.out.1).mono ?_
          rintro e w19 ⟨v_, rfl, ho_, hb_⟩
          obtain ⟨An3, cn3, rfl⟩ := Kd.R_slice ho_
          have HB_88 := Aside0.mk (below_then HB_79.out HB_79.out.size hb_)
          have HT_89 := Aside0.mk (HT_80.out.below hb_)
          have Hq_90 := Aside0.mk (Kd.R_below Hq_81.out hb_)
          have Hn1_91 := Aside0.mk (Kd.R_below Hn1_82.out hb_)
          have Ha1_92 := Aside0.mk (Kd.R_below Ha1_83.out hb_)
          have Hn2_93 := Aside0.mk (Kd.R_below Hn2_84.out hb_)
          have Hb1_94 := Aside0.mk (Kd.R_below Hb1_85.out hb_)
          have Ha2_95 := Aside0.mk (Kd.R_below Ha2_86.out hb_)
          have Hb2_96 := Aside0.mk (Kd.R_below Hb2_87.out hb_)
          clear HB_79 HT_80 Hq_81 Hn1_82 Ha1_83 Hn2_84 Hb1_85 Ha2_86 Hb2_87
          have Hn3_97 := Aside0.mk (ho_)
          clear ho_ hb_
          go_wp2_with fail
          refine (canopyref2_Pairs.calls ka An3 cn3 p rp _ (Kd.R_reads' Hn3_97.out).2.2 (Kd.R_reads' Hn3_97.out).2.1 HK.out.2.2.1).mono ?_
          rintro e w20 ⟨v_, rfl, ho_, hb_⟩
          obtain ⟨Ab3, cb3, rfl⟩ := Kd.R_slice ho_
          have HB_98 := Aside0.mk (below_then HB_88.out HB_88.out.size hb_)
          have HT_99 := Aside0.mk (HT_89.out.below hb_)
          have Hq_100 := Aside0.mk (Kd.R_below Hq_90.out hb_)
          have Hn1_101 := Aside0.mk (Kd.R_below Hn1_91.out hb_)
          have Ha1_102 := Aside0.mk (Kd.R_below Ha1_92.out hb_)
          have Hn2_103 := Aside0.mk (Kd.R_below Hn2_93.out hb_)
          have Hb1_104 := Aside0.mk (Kd.R_below Hb1_94.out hb_)
          have Ha2_105 := Aside0.mk (Kd.R_below Ha2_95.out hb_)
          have Hb2_106 := Aside0.mk (Kd.R_below Hb2_96.out hb_)
          have Hn3_107 := Aside0.mk (Kd.R_below Hn3_97.out hb_)
          clear HB_88 HT_89 Hq_90 Hn1_91 Ha1_92 Hn2_93 Hb1_94 Ha2_95 Hb2_96 Hn3_97
          have Hb3_108 := Aside0.mk (ho_)
          clear ho_ hb_
          go_wp2_with fail
          refine (canopyref2_Pairs.calls kb Aq cq q rq _ (Kd.R_reads' Hq_100.out).2.2 (Kd.R_reads' Hq_100.out).2.1 HK.out.2.2.2.1).mono ?_
          rintro e w21 ⟨v_, rfl, ho_, hb_⟩
          obtain ⟨Ab4, cb4, rfl⟩ := Kd.R_slice ho_
          have HB_109 := Aside0.mk (below_then HB_98.out HB_98.out.size hb_)
          have HT_110 := Aside0.mk (HT_99.out.below hb_)
          have Hq_111 := Aside0.mk (Kd.R_below Hq_100.out hb_)
          have Hn1_112 := Aside0.mk (Kd.R_below Hn1_101.out hb_)
          have Ha1_113 := Aside0.mk (Kd.R_below Ha1_102.out hb_)
          have Hn2_114 := Aside0.mk (Kd.R_below Hn2_103.out hb_)
          have Hb1_115 := Aside0.mk (Kd.R_below Hb1_104.out hb_)
          have Ha2_116 := Aside0.mk (Kd.R_below Ha2_105.out hb_)
          have Hb2_117 := Aside0.mk (Kd.R_below Hb2_106.out hb_)
          have Hn3_118 := Aside0.mk (Kd.R_below Hn3_107.out hb_)
          have Hb3_119 := Aside0.mk (Kd.R_below Hb3_108.out hb_)
          clear HB_98 HT_99 Hq_100 Hn1_101 Ha1_102 Hn2_103 Hb1_104 Ha2_105 Hb2_106 Hn3_107 Hb3_108
          have Hb4_120 := Aside0.mk (ho_)
          clear ho_ hb_
          go_wp2_with fail
          refine (canopyref2_Same.calls ke Ab3 cb3 rp Ab4 cb4 rq sB _ (Kd.R_reads' Hb3_119.out).2.2 (Kd.R_reads' Hb3_119.out).2.1 (Kd.R_reads' Hb4_120.out).2.2 (Kd.R_reads' Hb4_120.out).2.1 HK.out.2.2.2.2.2.2).mono ?_
          rintro e w22 ⟨rfl, hd_⟩
          have HB_121 := Aside0.mk (below_then HB_109.out HB_109.out.size hd_.below)
          have HT_122 := Aside0.mk (HT_110.out.below hd_.below)
          have Hq_123 := Aside0.mk (Kd.R_below Hq_111.out hd_.below)
          have Hn1_124 := Aside0.mk (Kd.R_below Hn1_112.out hd_.below)
          have Ha1_125 := Aside0.mk (Kd.R_below Ha1_113.out hd_.below)
          have Hn2_126 := Aside0.mk (Kd.R_below Hn2_114.out hd_.below)
          have Hb1_127 := Aside0.mk (Kd.R_below Hb1_115.out hd_.below)
          have Ha2_128 := Aside0.mk (Kd.R_below Ha2_116.out hd_.below)
          have Hb2_129 := Aside0.mk (Kd.R_below Hb2_117.out hd_.below)
          have Hn3_130 := Aside0.mk (Kd.R_below Hn3_118.out hd_.below)
          have Hb3_131 := Aside0.mk (Kd.R_below Hb3_119.out hd_.below)
          have Hb4_132 := Aside0.mk (Kd.R_below Hb4_120.out hd_.below)
          clear HB_109 HT_110 Hq_111 Hn1_112 Ha1_113 Hn2_114 Hb1_115 Ha2_116 Hb2_117 Hn3_118 Hb3_119 Hb4_120
          clear hd_
          go_wp2
          go_ret
          exact ⟨by first | rfl | (cases sB <;> rfl) | (simp), HB_121.out⟩
theorem canopylaw2_SetsKeeps.walk (P : canopylaw2_SetsKeeps.Pure) (a0 : Option Addr) (len0 cap0 : Nat) (z0 : List Int) (a1 : Option Addr) (len1 cap1 : Nat) (z1 : List Int) (a2 : Int) (w : World) (w0 : (a0 = none ∧ len0 = 0 ∧ cap0 = 0 ∧ z0 = []) ∨ ∃ x, a0 = some x ∧ len0 ≤ cap0 ∧ cap0 ≤ maxLen ∧ z0.length = cap0 ∧ (∀ i, i < z0.length → w.cell? (x.add i) = some (.int .i64 (z0.getD i 0))) ∧ ∀ n ∈ z0, (Lit.int .i64 n).wf = true) (y0 : len0 * 8 ≤ 140737488351232) (w1 : (a1 = none ∧ len1 = 0 ∧ cap1 = 0 ∧ z1 = []) ∨ ∃ x, a1 = some x ∧ len1 ≤ cap1 ∧ cap1 ≤ maxLen ∧ z1.length = cap1 ∧ (∀ i, i < z1.length → w.cell? (x.add i) = some (.int .i64 (z1.getD i 0))) ∧ ∀ n ∈ z1, (Lit.int .i64 n).wf = true) (y1 : len1 * 8 ≤ 140737488351232) (w2 : (Lit.int .i64 a2).wf = true) :
    Calls Try.prog 8 #[.slice a0 len0 cap0, .slice a1 len1 cap1, .int .i64 a2] w fun e w' => e = .returned (.bool true) ∧ Below w.heap.size w w' := by
  obtain ⟨l0, rfl, hr0, hm0, hw0, hc0⟩ := ReadsInt.ofRowC w0
  obtain ⟨l1, rfl, hr1, hm1, hw1, hc1⟩ := ReadsInt.ofRowC w1
  exact canopylaw2_SetsKeeps.calls _ _ l0 _ _ l1 a2 w (Kd.C_of_reads (d := (0 : Int)) (h1 := fun _ => rfl) hr0) hc0 (Kd.C_of_reads (d := (0 : Int)) (h1 := fun _ => rfl) hr1) hc1
end Go.Proofs.Ytmkpfamngedcmaa.P
