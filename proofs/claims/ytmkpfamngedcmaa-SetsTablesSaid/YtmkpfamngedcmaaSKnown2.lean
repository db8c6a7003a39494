/- canopylaw2.known: the chapter's examples are as told. -/
import Derived.Test.YtmkpfamngedcmaaSTabs
import Derived.Test.YtmkpfamngedcmaaSBoth
import Derived.Test.YtmkpfamngedcmaaSInts
import Derived.Test.YtmkpfamngedcmaaPSetsPack
import Derived.Test.YtmkpfamngedcmaaPSetsUnpack
set_option linter.unusedVariables false
set_option linter.unusedSimpArgs false
set_option linter.unnecessarySimpa false
namespace Go.Proofs.Ytmkpfamngedcmaa.P
open Go.RowKit Go.Proofs.YtmkpfamngedcmaaW.PrintWords Go.Proofs.YtmkpfamngedcmaaW.PrintLast Go.Proofs.YtmkpfamngedcmaaW.PrintMore Go.Proofs.Ytmkpfamngedcmaa.M

def canopylaw2_known.f : Option Bool := some true
theorem pairs_blk {w : World} {g : Nat} {cs : Array Value} (es : List TPair) (h : w.heap[g]? = some (.cells cs 27 (0, 0))) (hcs : cs = (es.flatMap encP).toArray) (hl : es.length ≤ 1000000000) : Kd.C k27 w (some ⟨g, 0, none⟩) es.length es := by
  have ho : PairRow w 0 (.slice (some ⟨g, 0, none⟩) es.length es.length) es := by
    refine ⟨flat_len hkP es, .inr ⟨g, es.length, cs, rfl, Nat.zero_le _, h, Nat.le_refl _, by unfold maxLen; omega, ?_, ?_⟩⟩
    · rw [hcs, List.size_toArray, flat_len hkP es]
    · rw [hcs]
      exact List.take_of_length_le (by rw [flat_len hkP es]; exact Nat.le_refl _)
  exact (Kd.R_reads' (pairs_R ho)).2.2
theorem ints_blk {w : World} {g : Nat} {cs : Array Value} (xs : List Int) (h : w.heap[g]? = some (.cells cs 3 (0, 0))) (hcs : cs = (xs.map (Value.int .i64)).toArray) (hl : xs.length ≤ 1000000000) : Kd.C (Kd.int .i64) w (some ⟨g, 0, none⟩) xs.length xs := by
  have ho : w.ownsRow 0 3 1 (.slice (some ⟨g, 0, none⟩) xs.length xs.length) xs.length (encs (Value.int .i64) xs) := by
    refine ⟨by simp [encs], .inr ⟨g, xs.length, cs, rfl, Nat.zero_le _, h, Nat.le_refl _, by unfold maxLen; omega, ?_, ?_⟩⟩
    · rw [hcs]; simp
    · rw [hcs]
      exact List.take_of_length_le (by simp)
  exact (Kd.R_reads' (Kd.R_of_own (ok := fun _ => True) (h1 := fun _ => rfl) ho (fun _ _ => trivial))).2.2
def rK : List TPair := [⟨1, 1⟩, ⟨1, 2⟩]
theorem onceA : onceC cmpPair [⟨1, 2⟩, ⟨1, 1⟩] = rK := by rfl
theorem onceB : onceC cmpPair [⟨1, 1⟩, ⟨1, 2⟩] = rK := by rfl
theorem intsK : sets_Ints.f [2, 1, 2] = some [1, 2] := by rfl
theorem bothK : sets_Both.f [⟨1, 1⟩] [] = some [] := by rfl
theorem packA : sets_Pack.f (-1) 2 = some 18446744069414584322 := by rfl
theorem unpackA : sets_Unpack.f 18446744069414584322 = some (-1, 2) := by unfold sets_Unpack.f wrap64 wrap32; decide
theorem packB : sets_Pack.f 1 2 = some 4294967298 := by rfl
theorem putA1 : putI [] rK = 0 ∧ putR [] rK = [rK] := ⟨rfl, rfl⟩
theorem putB1 : putI [rK] rK = 0 ∧ putR [rK] rK = [rK] := ⟨by decide, by decide⟩
set_option maxHeartbeats 16000000 in
set_option maxRecDepth 100000 in
theorem known_true (w : World) : Calls Try.prog 12 #[] w fun e w' => e = .returned (.bool true) ∧ Below w.heap.size w w' := by
  have tok1 := trivial
  have tok3 := trivial
  go_enter Try.func12, Try.ntmps12
  go_wp2_with (first
    | (go_at_call 25; go_loud (refine (new_calls _).mono ?_; rintro e w1 ⟨gt, ft, rfl, ht1, hs1, hb1⟩; have HT1 := Aside0.mk ht1; have HS1 := Aside0.mk hs1; have HB1 := Aside0.mk hb1; clear ht1 hs1 hb1))
    | (go_at_call 26; clear tok1; go_loud (refine (put_calls gt ft [] _ 2 [⟨1, 2⟩, ⟨1, 1⟩] _ (HT1.out.below (below_alloc (Below.refl _ _) _)) (pairs_blk [⟨1, 2⟩, ⟨1, 1⟩] (blk_newAt _ rfl) rfl (by decide)) (Nat.le_refl _) (by decide) (by decide)).mono ?_; rintro e w2 ⟨rfl, ft2, ht2, hi2, hj2, hf2⟩; rw [onceA, putA1.2] at ht2; rw [onceA, putA1.1]; have HT2 := Aside0.mk ht2;  have HB2 : Aside0 (Below w.heap.size w w2) := ⟨(below_alloc HB1.out _).trans (hf2.base (by rw [size_alloc]; have := HB1.out.size; omega) HS1.out)⟩; have HS2 : Aside0 (∀ k, ft2 k → w.heap.size ≤ k) := ⟨fun k hk => (hj2 k hk).elim (HS1.out k) (fun h => by rw [size_alloc] at h; have := HB1.out.size; omega)⟩; clear ht2 hi2 hj2 hf2))
    | (go_at_call 26; go_loud (refine (put_calls gt ft2 [rK] _ 2 [⟨1, 1⟩, ⟨1, 2⟩] _ (HT2.out.below (below_alloc (Below.refl _ _) _)) (pairs_blk [⟨1, 1⟩, ⟨1, 2⟩] (blk_newAt _ rfl) rfl (by decide)) (Nat.le_refl _) (by decide) (by decide)).mono ?_; rintro e w3 ⟨rfl, ft3, ht3, hi3, hj3, hf3⟩; rw [onceB, putB1.2] at ht3; rw [onceB, putB1.1]; have HT3 := Aside0.mk ht3;  have HB3 : Aside0 (Below w.heap.size w w3) := ⟨(below_alloc HB2.out _).trans (hf3.base (by rw [size_alloc]; have := HB2.out.size; omega) HS2.out)⟩; clear ht3 hi3 hj3 hf3))
    | (go_at_call 22; clear tok3; go_loud (refine (sets_Pack.calls (-1) 2 _ _ packA).mono ?_; rintro e w4 ⟨rfl, n4, hn4⟩; have hb4 : Below w3.heap.size w3 w4 := hn4 ▸ pw_below_drewN (Below.refl _ _) n4; have HB4 := Aside0.mk (below_then HB3.out HB3.out.size hb4); have HT4 := Aside0.mk (HT3.out.below hb4); clear hb4 hn4))
    | (go_at_call 21; go_loud (refine (sets_Unpack.calls _ _ _ _ unpackA).mono ?_; rintro e w5 ⟨rfl, n5, hn5⟩; have hb5 : Below w4.heap.size w4 w5 := hn5 ▸ pw_below_drewN (Below.refl _ _) n5; have HB5 := Aside0.mk (below_then HB4.out HB4.out.size hb5); have HT5 := Aside0.mk (HT4.out.below hb5); clear hb5 hn5))
    | (go_at_call 22; go_loud (refine (sets_Pack.calls 1 2 _ _ packB).mono ?_; rintro e w6 ⟨rfl, n6, hn6⟩; have hb6 : Below w5.heap.size w5 w6 := hn6 ▸ pw_below_drewN (Below.refl _ _) n6; have HB6 := Aside0.mk (below_then HB5.out HB5.out.size hb6); have HT6 := Aside0.mk (HT5.out.below hb6); clear hb6 hn6))
    | (go_at_call 28; go_loud (refine (len_calls gt ft3 [rK] w6 HT6.out).mono ?_; rintro e w7 ⟨rfl, hw7⟩; have HB7 : Aside0 (Below w.heap.size w w7) := ⟨hw7 ▸ HB6.out⟩; clear hw7))
    | (go_at_call 15; go_loud (refine (sets_Ints.calls _ 3 [2, 1, 2] [1, 2] _ (ints_blk [2, 1, 2] (blk_newAt _ rfl) rfl (by decide)) (Nat.le_refl _) intsK).mono ?_; rintro e w8 ⟨v8, rfl, hv8, hb8⟩; obtain ⟨A8, c8, rfl⟩ := Kd.V_slice hv8; have HB8 := Aside0.mk (below_then (below_alloc HB7.out _) (by rw [size_alloc]; have := HB7.out.size; omega) hb8); clear hv8 hb8))
    | (go_at_call 35; go_loud (refine (sets_Both.calls _ 1 [⟨1, 1⟩] none 0 [] [] _ (pairs_blk [⟨1, 1⟩] (blk_newAt _ rfl) rfl (by decide)) (Nat.le_refl _) (Kd.C_nil _ _) (Nat.le_refl _) bothK).mono ?_; rintro e w9 ⟨v9, rfl, hv9, hb9⟩; obtain ⟨A9, c9, rfl⟩ := Kd.R_slice hv9; have HB9 := Aside0.mk (below_then (below_alloc HB8.out _) (by rw [size_alloc]; have := HB8.out.size; omega) hb9); clear hv9 hb9)))
  go_ret
  exact ⟨rfl, HB9.out⟩
theorem canopylaw2_known.calls (r : Bool) (w : World) (h : canopylaw2_known.f = some r) :
    Calls Try.prog 12 #[] w fun e w' => e = .returned (.bool r) ∧ Below w.heap.size w w' := by
  cases h
  exact known_true w
end Go.Proofs.Ytmkpfamngedcmaa.P
