/- SetsApart, walked by hand: two tables do not touch one another. -/
import Derived.Test.YtmkpfamngedcmaaSKnown2
import Derived.Test.YtmkpfamngedcmaaUPairsN
set_option linter.unusedVariables false
set_option linter.unusedSimpArgs false
set_option linter.unnecessarySimpa false
namespace Go.Proofs.Ytmkpfamngedcmaa.P
open Go.RowKit Go.Proofs.YtmkpfamngedcmaaW.PrintWords Go.Proofs.YtmkpfamngedcmaaW.PrintLast Go.Proofs.YtmkpfamngedcmaaW.PrintMore Go.Proofs.Ytmkpfamngedcmaa.M Go.Proofs.Ytmkpfamngedcmaa.Pure

theorem dis_step {f g g' : Nat → Prop} {n : Nat} (d : ∀ k, f k → ¬ g k) (lt : ∀ k, f k → k < n) (h : ∀ k, g' k → g k ∨ n ≤ k) : ∀ k, f k → ¬ g' k := fun k hk hg => (h k hg).elim (d k hk) (fun h => by have := lt k hk; omega)
theorem pairE_lt (n : Int) : (pairE n).f0 ≤ 3 := by
  unfold pairE
  show Int.tmod (n % 1073741824) 4 ≤ 3
  have h0 := Int.emod_nonneg n (show (1073741824 : Int) ≠ 0 by decide)
  rw [Int.tmod_eq_emod_of_nonneg h0]
  have := Int.emod_lt_of_pos (n % 1073741824) (show (0 : Int) < 4 by decide)
  omega
theorem pairsE_lt (ns : List Int) (k : Int) : ∀ x ∈ pairsE ns k, x.f0 ≤ 3 := by
  intro x hx
  unfold pairsE at hx
  obtain ⟨n, _, rfl⟩ := List.mem_map.1 hx
  exact pairE_lt n
theorem row0 (r : List TPair) (rows : List (List TPair)) : rowR (r :: rows) 0 = r := by unfold rowR; rw [if_pos ⟨by omega, by simp⟩]; rfl
theorem infoPairA : (Try.prog.info? 27).map (fun i => (i.zero, i.size, i.bytes)) = some (some (.agg #[.int .i64 0, .int .i64 0]), 2, 16) := by kernel_rfl
theorem pair_lit {w : World} {base g : Nat} (a b : Int) (h : w.heap[g]? = some (.cells #[.int .i64 a, .int .i64 b] 27 (0, 0))) (hb : base ≤ g) : Kd.R k27 27 w base (fun _ => True) (.slice (some ⟨g, 0, none⟩) 1 1) [⟨a, b⟩] :=
  Kd.R_mono (pairs_R (w := w) (base := base) (v := .slice (some ⟨g, 0, none⟩) 1 1) (es := [⟨a, b⟩]) ⟨rfl, .inr ⟨g, 1, _, rfl, hb, h, Nat.le_refl _, by unfold maxLen; omega, rfl, rfl⟩⟩) (fun _ _ => trivial)
def canopylaw2_SetsApart.Pure : Prop := True
set_option maxHeartbeats 16000000 in
set_option maxRecDepth 100000 in
theorem canopylaw2_SetsApart.calls (A0 : Option Addr) (c0 : Nat) (l0 : List Int) (A1 : Option Addr) (c1 : Nat) (l1 : List Int) (w : World) (hr0 : Kd.C (Kd.int .i64) w A0 l0.length l0) (hc0 : l0.length ≤ c0) (hr1 : Kd.C (Kd.int .i64) w A1 l1.length l1) (hc1 : l1.length ≤ c1) :
    Calls Try.prog 10 #[.slice A0 l0.length c0, .slice A1 l1.length c1] w fun e w' => e = .returned (.bool true) ∧ Below w.heap.size w w' := by
  obtain ⟨kp, hkp⟩ := Ev.rounds (ev_pairsE l0 9 (by omega))
  obtain ⟨kq, hkq⟩ := Ev.rounds (ev_pairsE l1 9 (by omega))
  have hpl : (pairsE l0 9).length ≤ 9 := pairsE_len l0 9
  have hql : (pairsE l1 9).length ≤ 9 := pairsE_len l1 9
  have hq3 := pairsE_lt l1 9
  generalize pairsE l0 9 = p at hkp hpl
  generalize pairsE l1 9 = q at hkq hql hq3
  obtain ⟨y, hy⟩ : ∃ y : List TPair, (⟨77, 0⟩ : TPair) :: q = y := ⟨_, rfl⟩
  obtain ⟨rp, hrp⟩ : ∃ r, r = onceC cmpPair p := ⟨_, rfl⟩
  obtain ⟨rq, hrq⟩ : ∃ r, r = onceC cmpPair q := ⟨_, rfl⟩
  obtain ⟨ry, hry⟩ : ∃ r, r = onceC cmpPair y := ⟨_, rfl⟩
  have hne : ry ≠ rq := fun e => by
    have h1 : (⟨77, 0⟩ : TPair) ∈ ry := by rw [hry]; exact totalPair.mem_once.2 (by rw [← hy]; simp)
    rw [e, hrq] at h1
    have := hq3 _ (totalPair.mem_once.1 h1)
    simp at this
  have HYL : Aside0 (y.length ≤ 10) := ⟨by rw [← hy]; simp; omega⟩
  have HP0 : Aside0 (putI [] (onceC cmpPair p) = 0 ∧ putR [] (onceC cmpPair p) = [rp]) := ⟨by unfold putI; rw [if_neg (by simp)]; simp, by unfold putR; rw [if_neg (by simp), hrp]; rfl⟩
  have HF0 : Aside0 ((if onceC cmpPair p ∈ ([] : List (List TPair)) then ((([] : List (List TPair)).idxOf (onceC cmpPair p) : Nat) : Int) else 0) = 0 ∧ decide (onceC cmpPair p ∈ ([] : List (List TPair))) = false) := ⟨by rw [if_neg (by simp)], by simp⟩
  have HQ0 : Aside0 (putI [] (onceC cmpPair q) = 0 ∧ putR [] (onceC cmpPair q) = [rq]) := ⟨by unfold putI; rw [if_neg (by simp)]; simp, by unfold putR; rw [if_neg (by simp), hrq]; rfl⟩
  have HQ1 : Aside0 (putR [rq] (onceC cmpPair y) = [rq, ry]) := ⟨by unfold putR; rw [← hry, if_neg (by simpa using hne)]; rfl⟩
  obtain ⟨ka, hka⟩ := Ev.rounds (ev_Pairs p (by omega))
  obtain ⟨kb, hkb⟩ := Ev.rounds (ev_Pairs q (by omega))
  rw [← hrp] at hka
  rw [← hrq] at hkb
  have hpl2 : rp.length ≤ 9 := by rw [hrp]; exact Nat.le_trans (once_len totalPair p) hpl
  have hql2 : rq.length ≤ 9 := by rw [hrq]; exact Nat.le_trans (once_len totalPair q) hql
  obtain ⟨kc, hkc⟩ := Ev.rounds (ev_Same rp rp (by omega))
  obtain ⟨kd, hkd⟩ := Ev.rounds (ev_Same rq rq (by omega))
  rw [decide_eq_true rfl] at hkc hkd
  have HK := Aside0.mk (And.intro hkp (And.intro hkq (And.intro hka (And.intro hkb (And.intro hkc hkd)))))
  have HL := Aside0.mk (And.intro hpl (And.intro hql (And.intro hpl2 hql2)))
  have HY := Aside0.mk hy
  have HR := Aside0.mk (And.intro hr0 (And.intro hc0 (And.intro hr1 hc1)))
  clear hkp hkq hpl hql hq3 hy hrp hrq hry hne hka hkb hkc hkd hpl2 hql2 hr0 hc0 hr1 hc1
  go_enter Try.func10, Try.ntmps10
  go_wp2_with fail
  refine (canopylaw2_known.calls true _ rfl).mono ?_
  rintro e w1 ⟨rfl, hb1⟩
  have HB1 := Aside0.mk hb1
  clear hb1
  go_wp2_with fail
  refine (new_calls _).mono ?_
  rintro e w2 ⟨ga, fa, rfl, ht2, hs2, hb2⟩
  have HTa2 := Aside0.mk ht2
  have HSa : Aside0 (∀ k, fa k → w.heap.size ≤ k) := ⟨fun k hk => Nat.le_trans HB1.out.size (hs2 k hk)⟩
  have HB2 := Aside0.mk (below_then HB1.out HB1.out.size hb2)
  clear ht2 hs2 hb2
  go_wp2_with fail
  refine (new_calls _).mono ?_
  rintro e w3 ⟨gb, fb, rfl, ht3, hs3, hb3⟩
  have HTb3 := Aside0.mk ht3
  have HTa3 := Aside0.mk (HTa2.out.below hb3)
  have HSb : Aside0 (∀ k, fb k → w.heap.size ≤ k) := ⟨fun k hk => Nat.le_trans HB2.out.size (hs3 k hk)⟩
  have HD3 : Aside0 (∀ k, fb k → ¬ fa k) := ⟨fun k hk ha => by have := HTa2.out.lt_ k ha; have := hs3 k hk; omega⟩
  have HB3 := Aside0.mk (below_then HB2.out HB2.out.size hb3)
  clear ht3 hs3 hb3 HTa2
  go_wp2_with fail
  refine (canopylaw2_Pairs.calls kp _ _ l0 9 p _ (Kd.C_below HR.out.1 HB3.out) HR.out.2.1 HK.out.1).mono ?_
  rintro e w4 ⟨v4, rfl, ho4, hb4⟩
  obtain ⟨Ap, cp, rfl⟩ := Kd.R_slice ho4
  have HP4 := Aside0.mk (Kd.R_mono (Kd.R_bound ho4) (fun k hk => (⟨hk.2.1, hk.2.2.1⟩ : w3.heap.size ≤ k ∧ k < w4.heap.size)))
  have HTa4 := Aside0.mk (HTa3.out.below hb4)
  have HTb4 := Aside0.mk (HTb3.out.below hb4)
  have HDpa : Aside0 (∀ k, (w3.heap.size ≤ k ∧ k < w4.heap.size) → ¬ fa k) := ⟨fun k hk hf => by have := HTa3.out.lt_ k hf; omega⟩
  have HDpb : Aside0 (∀ k, (w3.heap.size ≤ k ∧ k < w4.heap.size) → ¬ fb k) := ⟨fun k hk hf => by have := HTb3.out.lt_ k hf; omega⟩
  have HB4 := Aside0.mk (below_then HB3.out HB3.out.size hb4)
  clear ho4 hb4
  go_wp2_with fail
  refine (canopylaw2_Pairs.calls kq _ _ l1 9 q _ (Kd.C_below HR.out.2.2.1 HB4.out) HR.out.2.2.2 HK.out.2.1).mono ?_
  rintro e w5 ⟨v5, rfl, ho5, hb5⟩
  obtain ⟨Aq, cq, rfl⟩ := Kd.R_slice ho5
  have HQ5 := Aside0.mk (Kd.R_mono (Kd.R_bound ho5) (fun k hk => (⟨hk.2.1, hk.2.2.1⟩ : w4.heap.size ≤ k ∧ k < w5.heap.size)))
  have HP5 := Aside0.mk (Kd.R_below HP4.out hb5)
  have HTa5 := Aside0.mk (HTa4.out.below hb5)
  have HTb5 := Aside0.mk (HTb4.out.below hb5)
  have HDqa : Aside0 (∀ k, (w4.heap.size ≤ k ∧ k < w5.heap.size) → ¬ fa k) := ⟨fun k hk hf => by have := HTa4.out.lt_ k hf; omega⟩
  have HDqb : Aside0 (∀ k, (w4.heap.size ≤ k ∧ k < w5.heap.size) → ¬ fb k) := ⟨fun k hk hf => by have := HTb4.out.lt_ k hf; omega⟩
  have HZ5 : Aside0 (w4.heap.size ≤ w5.heap.size) := ⟨hb5.size⟩
  have HB5 := Aside0.mk (below_then HB4.out HB4.out.size hb5)
  clear ho5 hb5
  clear HTa3 HTb3 HTa4 HTb4 HP4
  go_wp2_with fail
  refine (put_calls ga fa [] Ap cp p _ HTa5.out (Kd.R_reads' HP5.out).2.2 (Kd.R_reads' HP5.out).2.1 (by have := HL.out; omega) (by simp)).mono ?_
  rintro e w6 ⟨rfl, fa6, ht6, hi6, hj6, hf6⟩
  rw [HP0.out.2] at ht6
  rw [HP0.out.1]
  have HTa6 := Aside0.mk ht6
  have HTb6 := Aside0.mk (HTb5.out.apart hf6 HD3.out)
  have HD6 : Aside0 (∀ k, fa6 k → ¬ fb k) := ⟨fun k hk hb => dis_step HD3.out HTb5.out.lt_ hj6 k hb hk⟩
  have HP6 := Aside0.mk (Kd.R_step HP5.out (fun k hk hlt => hf6.kept.2 k hlt (HDpa.out k hk)))
  have HQ6 := Aside0.mk (Kd.R_step HQ5.out (fun k hk hlt => hf6.kept.2 k hlt (HDqa.out k hk)))
  have HSa6 : Aside0 (∀ k, fa6 k → w.heap.size ≤ k) := ⟨fun k hk => (hj6 k hk).elim (HSa.out k) (fun h => Nat.le_trans HB5.out.size h)⟩
  have HB6 : Aside0 (Below w.heap.size w w6) := ⟨HB5.out.trans (hf6.base HB5.out.size HSa.out)⟩
  have HZ6 : Aside0 (w5.heap.size ≤ w6.heap.size) := ⟨hf6.kept.1⟩
  clear ht6 hi6 hj6 hf6 HTa5 HTb5 HP5 HQ5 HB5
  go_wp2_with fail
  refine (Find_calls gb fb [] Ap cp p _ HTb6.out (Kd.R_reads' HP6.out).2.2 (Kd.R_reads' HP6.out).2.1 (by have := HL.out; omega) (by simp)).mono ?_
  rintro e w7 ⟨rfl, hb7⟩
  rw [HF0.out.1, HF0.out.2]
  have HTa7 := Aside0.mk (HTa6.out.below hb7)
  have HTb7 := Aside0.mk (HTb6.out.below hb7)
  have HP7 := Aside0.mk (Kd.R_below HP6.out hb7)
  have HQ7 := Aside0.mk (Kd.R_below HQ6.out hb7)
  have HB7 := Aside0.mk (below_then HB6.out HB6.out.size hb7)
  have HZ7 : Aside0 (w5.heap.size ≤ w7.heap.size) := ⟨Nat.le_trans HZ6.out hb7.size⟩
  clear hb7 HTa6 HTb6 HP6 HQ6 HB6
  go_wp2_with fail
  refine (put_calls gb fb [] Aq cq q _ HTb7.out (Kd.R_reads' HQ7.out).2.2 (Kd.R_reads' HQ7.out).2.1 (by have := HL.out; omega) (by simp)).mono ?_
  rintro e w8 ⟨rfl, fb8, ht8, hi8, hj8, hf8⟩
  rw [HQ0.out.2] at ht8
  rw [HQ0.out.1]
  have HTb8 := Aside0.mk ht8
  have HTa8 := Aside0.mk (HTa7.out.apart hf8 HD6.out)
  have HD8 : Aside0 (∀ k, fa6 k → ¬ fb8 k) := ⟨dis_step HD6.out HTa7.out.lt_ hj8⟩
  have HP8 := Aside0.mk (Kd.R_step HP7.out (fun k hk hlt => hf8.kept.2 k hlt (HDpb.out k hk)))
  have HQ8 := Aside0.mk (Kd.R_step HQ7.out (fun k hk hlt => hf8.kept.2 k hlt (HDqb.out k hk)))
  have HDq8 : Aside0 (∀ k, (w4.heap.size ≤ k ∧ k < w5.heap.size) → ¬ fb8 k) := ⟨dis_step (n := w7.heap.size) HDqb.out (fun k hk => by have := hk.2; have := HZ7.out; omega) hj8⟩
  have HDp8 : Aside0 (∀ k, (w3.heap.size ≤ k ∧ k < w4.heap.size) → ¬ fb8 k) := ⟨dis_step (n := w7.heap.size) HDpb.out (fun k hk => by have := hk.2; have := HZ5.out; have := HZ7.out; omega) hj8⟩
  have HSb8 : Aside0 (∀ k, fb8 k → w.heap.size ≤ k) := ⟨fun k hk => (hj8 k hk).elim (HSb.out k) (fun h => Nat.le_trans HB7.out.size h)⟩
  have HB8 : Aside0 (Below w.heap.size w w8) := ⟨HB7.out.trans (hf8.base HB7.out.size HSb.out)⟩
  clear ht8 hi8 hj8 hf8 HTa7 HTb7 HP7 HQ7 HB7
  go_wp2_with (at_builtin; go_loud (refine Kd.R_append_rows k27 (w0 := w8.alloc (.cells #[.int .i64 77, .int .i64 0] 27)) w8.heap.size (by rfl) (.tmp 39) (.tmp 40) 24 27 (.agg #[(.int .i64 0), (.int .i64 0)]) 16 rfl Try.underlying24 infoPairA rfl (by decide) (by omega) (.slice (some ⟨w8.heap.size, 0, none⟩) 1 1) [⟨77, 0⟩] q _ _ _ (fun _ => True) (fun _ => False) rfl rfl (pair_lit 77 0 (blk_newAt _ rfl) (Nat.le_refl _)) (Kd.C_below (Kd.R_reads' HQ8.out).2.2 (below_alloc (Below.refl _ _) _)) (fun _ _ h => h) (fun _ h => h.elim) (fun _ _ => trivial) (Below.refl _ _) (by rw [size_alloc]; omega) ?aL ?_))
  case aL => have := HL.out; simp; omega
  intro v9 w9 ho9 hb9 hg9 hat9
  rw [HY.out] at ho9
  obtain ⟨Ay, cy, rfl⟩ := Kd.R_slice ho9
  have HY9 := Aside0.mk ho9
  have hb8 : Below w8.heap.size w8 w9 := (below_alloc (Below.refl _ _) _).trans hb9
  have HTa9 := Aside0.mk (HTa8.out.below hb8)
  have HTb9 := Aside0.mk (HTb8.out.below hb8)
  have HP9 := Aside0.mk (Kd.R_below HP8.out hb8)
  have HQ9 := Aside0.mk (Kd.R_below HQ8.out hb8)
  have HB9 := Aside0.mk (below_then HB8.out HB8.out.size hb8)
  clear ho9 hb9 hg9 hat9 hb8 HTa8 HTb8 HP8 HQ8
  go_wp2_with fail
  refine (put_calls gb fb8 [rq] Ay cy y _ HTb9.out (Kd.R_reads' HY9.out).2.2 (Kd.R_reads' HY9.out).2.1 (by have := HYL.out; omega) (by simp)).mono ?_
  rintro e w10 ⟨rfl, fb10, ht10, hi10, hj10, hf10⟩
  rw [HQ1.out] at ht10
  have HTb10 := Aside0.mk ht10
  have HTa10 := Aside0.mk (HTa9.out.apart hf10 HD8.out)
  have HP10 := Aside0.mk (Kd.R_step HP9.out (fun k hk hlt => hf10.kept.2 k hlt (HDp8.out k hk)))
  have HQ10 := Aside0.mk (Kd.R_step HQ9.out (fun k hk hlt => hf10.kept.2 k hlt (HDq8.out k hk)))
  have HB10 : Aside0 (Below w.heap.size w w10) := ⟨HB9.out.trans (hf10.base HB9.out.size HSb8.out)⟩
  clear ht10 hi10 hj10 hf10 HTa9 HTb9 HP9 HQ9 HB9
  go_wp2_with fail
  refine (len_calls ga fa6 [rp] _ HTa10.out).mono ?_
  rintro e w11 ⟨rfl, rfl⟩
  go_wp2_with fail
  refine (len_calls gb fb10 [rq, ry] _ HTb10.out).mono ?_
  rintro e w11 ⟨rfl, rfl⟩
  go_wp2_with fail
  refine (row_calls ga fa6 [rp] 0 _ HTa10.out).mono ?_
  rintro e w12 ⟨v12, rfl, ho12, hb12⟩
  rw [row0] at ho12
  have hR12 := pairs_R ho12
  obtain ⟨A12, c12, rfl⟩ := Kd.R_slice hR12
  have HR12 := Aside0.mk hR12
  have HTb12 := Aside0.mk (HTb10.out.below hb12)
  have HP12 := Aside0.mk (Kd.R_below HP10.out hb12)
  have HQ12 := Aside0.mk (Kd.R_below HQ10.out hb12)
  have HB12 := Aside0.mk (below_then HB10.out HB10.out.size hb12)
  clear ho12 hR12 hb12 HTb10 HP10 HQ10 HB10
  go_wp2_with fail
  refine (canopyref2_Pairs.calls ka Ap cp p rp _ (Kd.R_reads' HP12.out).2.2 (Kd.R_reads' HP12.out).2.1 HK.out.2.2.1).mono ?_
  rintro e w13 ⟨v13, rfl, ho13, hb13⟩
  obtain ⟨A13, c13, rfl⟩ := Kd.R_slice ho13
  have HR13 := Aside0.mk (Kd.R_below HR12.out hb13)
  have HS13 := Aside0.mk ho13
  have HTb13 := Aside0.mk (HTb12.out.below hb13)
  have HQ13 := Aside0.mk (Kd.R_below HQ12.out hb13)
  have HB13 := Aside0.mk (below_then HB12.out HB12.out.size hb13)
  clear ho13 hb13 HTb12 HP12 HQ12 HB12 HR12
  go_wp2_with fail
  refine (canopyref2_Same.calls kc A12 c12 rp A13 c13 rp true _ (Kd.R_reads' HR13.out).2.2 (Kd.R_reads' HR13.out).2.1 (Kd.R_reads' HS13.out).2.2 (Kd.R_reads' HS13.out).2.1 HK.out.2.2.2.2.1).mono ?_
  rintro e w14 ⟨rfl, hd14⟩
  have HTb14 := Aside0.mk (HTb13.out.below hd14.below)
  have HQ14 := Aside0.mk (Kd.R_below HQ13.out hd14.below)
  have HB14 := Aside0.mk (below_then HB13.out HB13.out.size hd14.below)
  clear hd14 HTb13 HQ13 HB13 HR13 HS13
  go_wp2_with fail
  refine (row_calls gb fb10 [rq, ry] 0 _ HTb14.out).mono ?_
  rintro e w15 ⟨v15, rfl, ho15, hb15⟩
  rw [row0] at ho15
  have hR15 := pairs_R ho15
  obtain ⟨A15, c15, rfl⟩ := Kd.R_slice hR15
  have HR15 := Aside0.mk hR15
  have HQ15 := Aside0.mk (Kd.R_below HQ14.out hb15)
  have HB15 := Aside0.mk (below_then HB14.out HB14.out.size hb15)
  clear ho15 hR15 hb15 HTb14 HQ14 HB14
  go_wp2_with fail
  refine (canopyref2_Pairs.calls kb Aq cq q rq _ (Kd.R_reads' HQ15.out).2.2 (Kd.R_reads' HQ15.out).2.1 HK.out.2.2.2.1).mono ?_
  rintro e w16 ⟨v16, rfl, ho16, hb16⟩
  obtain ⟨A16, c16, rfl⟩ := Kd.R_slice ho16
  have HR16 := Aside0.mk (Kd.R_below HR15.out hb16)
  have HS16 := Aside0.mk ho16
  have HB16 := Aside0.mk (below_then HB15.out HB15.out.size hb16)
  clear ho16 hb16 HQ15 HB15 HR15
  go_wp2_with fail
  refine (canopyref2_Same.calls kd A15 c15 rq A16 c16 rq true _ (Kd.R_reads' HR16.out).2.2 (Kd.R_reads' HR16.out).2.1 (Kd.R_reads' HS16.out).2.2 (Kd.R_reads' HS16.out).2.1 HK.out.2.2.2.2.2).mono ?_
  rintro e w17 ⟨rfl, hd17⟩
  have HB17 := Aside0.mk (below_then HB16.out HB16.out.size hd17.below)
  clear hd17
  go_wp2
  go_ret
  exact ⟨rfl, HB17.out⟩
theorem canopylaw2_SetsApart.walk (P : canopylaw2_SetsApart.Pure) (a0 : Option Addr) (len0 cap0 : Nat) (z0 : List Int) (a1 : Option Addr) (len1 cap1 : Nat) (z1 : List Int) (w : World) (w0 : (a0 = none ∧ len0 = 0 ∧ cap0 = 0 ∧ z0 = []) ∨ ∃ x, a0 = some x ∧ len0 ≤ cap0 ∧ cap0 ≤ maxLen ∧ z0.length = cap0 ∧ (∀ i, i < z0.length → w.cell? (x.add i) = some (.int .i64 (z0.getD i 0))) ∧ ∀ n ∈ z0, (Lit.int .i64 n).wf = true) (y0 : len0 * 8 ≤ 140737488351232) (w1 : (a1 = none ∧ len1 = 0 ∧ cap1 = 0 ∧ z1 = []) ∨ ∃ x, a1 = some x ∧ len1 ≤ cap1 ∧ cap1 ≤ maxLen ∧ z1.length = cap1 ∧ (∀ i, i < z1.length → w.cell? (x.add i) = some (.int .i64 (z1.getD i 0))) ∧ ∀ n ∈ z1, (Lit.int .i64 n).wf = true) (y1 : len1 * 8 ≤ 140737488351232) :
    Calls Try.prog 10 #[.slice a0 len0 cap0, .slice a1 len1 cap1] w fun e w' => e = .returned (.bool true) ∧ Below w.heap.size w w' := by
  obtain ⟨l0, rfl, hr0, hm0, hw0, hc0⟩ := ReadsInt.ofRowC w0
  obtain ⟨l1, rfl, hr1, hm1, hw1, hc1⟩ := ReadsInt.ofRowC w1
  exact canopylaw2_SetsApart.calls _ _ l0 _ _ l1 w (Kd.C_of_reads (d := (0 : Int)) (h1 := fun _ => rfl) hr0) hc0 (Kd.C_of_reads (d := (0 : Int)) (h1 := fun _ => rfl) hr1) hc1
end Go.Proofs.Ytmkpfamngedcmaa.P
