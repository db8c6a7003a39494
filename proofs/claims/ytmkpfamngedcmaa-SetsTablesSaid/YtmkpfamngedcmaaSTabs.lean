/- sets.Table: New, Find, Len, Row. -/
import Derived.Test.YtmkpfamngedcmaaSPut
set_option linter.unusedVariables false
set_option linter.unusedSimpArgs false
set_option linter.unnecessarySimpa false
namespace Go.Proofs.Ytmkpfamngedcmaa.P
open Go.RowKit Go.Proofs.YtmkpfamngedcmaaW.PrintWords Go.Proofs.YtmkpfamngedcmaaW.PrintLast Go.Proofs.YtmkpfamngedcmaaW.PrintMore Go.Proofs.Ytmkpfamngedcmaa.M

theorem Tab.lt_ {w : World} {gt : Nat} {ft : Nat → Prop} {rows : List (List TPair)} (h : Tab w gt ft rows) : ∀ k, ft k → k < w.heap.size := by
  obtain ⟨_, _, _, h⟩ := h
  exact h.lt
theorem Tab.new {w : World} {bm gt : Nat} (hb : bm = w.heap.size) (hg : gt = w.heap.size + 1) :
    Tab ((w.alloc (.map #[] 0)).alloc (.cells #[.slice none 0 0, .map (some bm)] 61)) gt (fun k => k = gt ∨ k = bm) [] := by
  have hs : ((w.alloc (.map #[] 0)).alloc (.cells #[.slice none 0 0, .map (some bm)] 61)).heap.size = w.heap.size + 2 := by rw [size_alloc, size_alloc]
  refine ⟨bm, .slice none 0 0, [], ⟨fun k hk => by rw [hs]; omega, .inl rfl, .inr rfl, List.nodup_nil, fun r hr => by simp at hr, ?_, Kd.N_nil _ _ _ _ _, ?_, fun h v hv => by simp [asc] at hv, fun h _ r hr => by simp at hr, fun h h' v v' hv => by simp [asc] at hv⟩⟩
  · exact blk_newAt _ (by rw [size_alloc]; exact hg)
  · exact (MapIs.madeAt _ _ hb).alloc _
set_option maxHeartbeats 4000000 in
set_option maxRecDepth 100000 in
theorem new_calls (w : World) :
    Calls Try.prog 25 #[] w fun e w' => ∃ gt ft, e = .returned (.pointer (some ⟨gt, 0, none⟩)) ∧ Tab w' gt ft [] ∧ (∀ k, ft k → w.heap.size ≤ k) ∧ Below w.heap.size w w' := by
  have hmm := @run_makeMap Try.prog
  go_enter Try.func25, Try.ntmps25
  go_wp2
  go_ret
  refine ⟨_, _, rfl, Tab.new rfl rfl, ?_, below_alloc (below_alloc (Below.refl _ _) _) _⟩
  rintro k (rfl | rfl) <;> omega
set_option maxHeartbeats 4000000 in
set_option maxRecDepth 100000 in
theorem len_calls (gt : Nat) (ft : Nat → Prop) (rows : List (List TPair)) (w : World) (h : Tab w gt ft rows) :
    Calls Try.prog 28 #[.pointer (some ⟨gt, 0, none⟩)] w fun e w' => e = .returned (.int .i64 (rows.length : Int)) ∧ w' = w := by
  obtain ⟨bm, vr, m, h⟩ := h
  obtain ⟨Ar, cr, rfl⟩ := Kd.N_slice h.n
  have c1 := (blk_cell h.t 0).trans (show (#[Value.slice Ar rows.length cr, .map (some bm)] : Array Value)[0]? = some (.slice Ar rows.length cr) from rfl)
  clear h
  go_enter Try.func28, Try.ntmps28
  go_wp2
  go_ret
  exact ⟨rfl, rfl⟩
set_option maxHeartbeats 8000000 in
set_option maxRecDepth 100000 in
theorem Find_calls (gt : Nat) (ft : Nat → Prop) (rows : List (List TPair)) (A : Option Addr) (c : Nat) (p : List TPair) (w : World) (h : Tab w gt ft rows) (hr : Kd.C k27 w A p.length p) (hc : p.length ≤ c) (hl : p.length ≤ 1000000000) (hn : rows.length ≤ 1000000000) :
    Calls Try.prog 27 #[.pointer (some ⟨gt, 0, none⟩), .slice A p.length c] w fun e w' => e = .returned (.tuple #[.int .i64 (if onceC cmpPair p ∈ rows then (rows.idxOf (onceC cmpPair p) : Int) else 0), .bool (decide (onceC cmpPair p ∈ rows))]) ∧ Below w.heap.size w w' := by
  obtain ⟨r, hrp⟩ : ∃ r, r = onceC cmpPair p := ⟨_, rfl⟩
  have HT := Aside0.mk h
  have HR := Aside0.mk hr
  have HL := Aside0.mk (And.intro hl (And.intro hc hn))
  have HP := Aside0.mk hrp.symm
  have Hrl : Aside0 (r.length ≤ 1000000000) := ⟨by rw [hrp]; exact Nat.le_trans (once_len totalPair p) hl⟩
  rw [← hrp]
  clear h hr hc hl hn hrp
  by_cases hm : r ∈ rows
  · obtain ⟨q, hq⟩ : ∃ q : Nat, q = rows.idxOf r := ⟨_, rfl⟩
    have Hat : Aside0 (atR rows r = (q : Int)) := ⟨by unfold atR; rw [if_pos hm, hq]⟩
    have t1 := eq_true (show (0 : Int) ≤ (q : Int) by omega)
    rw [if_pos hm, decide_eq_true hm, ← hq]
    clear hm hq
    go_enter Try.func27, Try.ntmps27
    go_wp2_with (first
      | (go_at_call 16; go_loud (refine (sets_Pairs.calls A c p r _ HR.out HL.out.2.1 (by unfold sets_Pairs.f; rw [if_pos HL.out.1, HP.out])).mono ?_; rintro e w1 ⟨v1, rfl, hv1, hb1⟩; obtain ⟨Ap, cp, rfl⟩ := Kd.V_slice hv1; have HV1 := Aside0.mk hv1; have HB1 := Aside0.mk hb1; clear hv1 hb1))
      | (go_at_call 49; go_loud (refine (find_calls gt ft rows Ap cp r w1 (HT.out.below HB1.out) (Kd.V_reads' HV1.out).2.2 (Kd.V_reads' HV1.out).2.1 Hrl.out HL.out.2.2).mono ?_; rintro e w2 ⟨rfl, hb2⟩; have HB2 := Aside0.mk (below_then HB1.out HB1.out.size hb2); clear hb2; rw [Hat.out])))
    go_ret2
    exact ⟨rfl, HB2.out⟩
  · have Hat : Aside0 (atR rows r = (-1 : Int)) := ⟨atR_miss hm⟩
    rw [if_neg hm, decide_eq_false hm]
    clear hm
    go_enter Try.func27, Try.ntmps27
    go_wp2_with (first
      | (go_at_call 16; go_loud (refine (sets_Pairs.calls A c p r _ HR.out HL.out.2.1 (by unfold sets_Pairs.f; rw [if_pos HL.out.1, HP.out])).mono ?_; rintro e w1 ⟨v1, rfl, hv1, hb1⟩; obtain ⟨Ap, cp, rfl⟩ := Kd.V_slice hv1; have HV1 := Aside0.mk hv1; have HB1 := Aside0.mk hb1; clear hv1 hb1))
      | (go_at_call 49; go_loud (refine (find_calls gt ft rows Ap cp r w1 (HT.out.below HB1.out) (Kd.V_reads' HV1.out).2.2 (Kd.V_reads' HV1.out).2.1 Hrl.out HL.out.2.2).mono ?_; rintro e w2 ⟨rfl, hb2⟩; have HB2 := Aside0.mk (below_then HB1.out HB1.out.size hb2); clear hb2; rw [Hat.out])))
    go_ret2
    exact ⟨rfl, HB2.out⟩
def rowR (rows : List (List TPair)) (i : Int) : List TPair := if 0 ≤ i ∧ i < rows.length then rows.getD i.toNat [] else []
set_option maxHeartbeats 8000000 in
set_option maxRecDepth 100000 in
theorem row_calls (gt : Nat) (ft : Nat → Prop) (rows : List (List TPair)) (i : Int) (w : World) (h : Tab w gt ft rows) :
    Calls Try.prog 33 #[.pointer (some ⟨gt, 0, none⟩), .int .i64 i] w fun e w' => ∃ v, e = .returned v ∧ PairRow w' w.heap.size v (rowR rows i) ∧ Below w.heap.size w w' := by
  obtain ⟨bm, vr, m, h⟩ := h
  obtain ⟨Ar, cr, rfl⟩ := Kd.N_slice h.n
  have c1 := (blk_cell h.t 0).trans (show (#[Value.slice Ar rows.length cr, .map (some bm)] : Array Value)[0]? = some (.slice Ar rows.length cr) from rfl)
  by_cases h0 : i < 0
  · have hr : rowR rows i = [] := if_neg (by omega)
    rw [hr]
    have t1 := eq_true h0
    have t2 := decide_eq_true h0
    clear h h0 hr
    go_enter Try.func33, Try.ntmps33
    go_wp2
    go_ret
    exact ⟨_, rfl, World.ownsRow_nil _ _ _ _, Below.refl _ _⟩
  · have t1 := eq_false h0
    have t2 := decide_eq_false h0
    by_cases h1 : (rows.length : Int) ≤ i
    · have hr : rowR rows i = [] := if_neg (by omega)
      rw [hr]
      have t3 := eq_true h1
      have t4 := decide_eq_true h1
      clear h h0 h1 hr
      go_enter Try.func33, Try.ntmps33
      go_wp2
      go_ret
      exact ⟨_, rfl, World.ownsRow_nil _ _ _ _, Below.refl _ _⟩
    · have t3 := eq_false h1
      have t4 := decide_eq_false h1
      have t5 := eq_true (show 0 ≤ i by omega)
      have t6 := eq_true (show i < (rows.length : Int) by omega)
      have hr : rowR rows i = rdRow rows i := if_pos (by omega)
      rw [hr]
      obtain ⟨ad, A0, c0, eA, c2, hc0, hC0⟩ := atRow (Kd.N_reads' h.n).2.2 i (by omega) (by omega)
      have HL : Aside0 ((rdRow rows i).length ≤ 1000000000) := ⟨by
        unfold rdRow
        rw [List.getD_eq_getElem?_getD, List.getElem?_eq_getElem (show i.toNat < rows.length by omega)]
        exact h.ok _ (List.getElem_mem _)⟩
      subst eA
      have HC0 := Aside0.mk hC0
      clear h h0 h1 hr hC0 hc0
      generalize rdRow rows i = r at c2 HL HC0 ⊢
      go_enter Try.func33, Try.ntmps33
      go_wp2_with (go_at_call 43; go_loud (refine (clone_pair A0 c0 r _ HC0.out HL.out).mono ?_; rintro e w4 ⟨v4, rfl, hv4, hb4⟩; have HV4 := Aside0.mk hv4; have HB4 := Aside0.mk hb4; clear hv4 hb4))
      go_ret
      exact ⟨v4, rfl, HV4.out, HB4.out⟩
end Go.Proofs.Ytmkpfamngedcmaa.P
