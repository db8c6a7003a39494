/- Places of a machine in order: what runs.order computes, and that the Go text computes it, laying blocks and drawing alone. runs.Start, runs.Step: what they compute: the places of a machine. -/
import Derived.Test.YtjkhdldgmkkhjaaMAll
import Derived.Test.YtjkhdldgmkkhjaaP0
import Derived.Test.YtjkhdldgmkkhjaaPCmpOrInt
import Derived.Test.YtjkhdldgmkkhjaaPCmpCompareInt
import Derived.Test.YtjkhdldgmkkhjaaPSlicesCompareIntInt
import Derived.Test.YtjkhdldgmkkhjaaSTakesDef
set_option linter.unusedVariables false
set_option linter.unusedSimpArgs false
set_option linter.unnecessarySimpa false
namespace Go.Proofs.Ytjkhdldgmkkhjaa.P
open Go.RowKit Go.Proofs.YtjkhdldgmkkhjaaW.PrintWords Go.Proofs.YtjkhdldgmkkhjaaW.PrintLast Go.Proofs.YtjkhdldgmkkhjaaW.PrintMore Go.Proofs.Ytjkhdldgmkkhjaa.M

theorem compare_f (a b : Int) : cmp_Compare_int.f a b = some (cmpInt a b) := by
  simp only [cmp_Compare_int.f, cmp_isNaN_int.f, Option.bind_some, bne_self_eq_false, Bool.false_eq_true, if_false, cmpInt]
  split
  · rfl
  · split <;> rfl
theorem or_f (a b : Int) : cmp_Or_int.f 3 [a, b] = some (orInt a b) := by
  have w1 : wrap64 1 = 1 := by unfold wrap64; omega
  have w2 : wrap64 2 = 2 := by unfold wrap64; omega
  by_cases ha : a = 0
  · by_cases hb : b = 0
    · subst ha; subst hb; simp [cmp_Or_int.f, cmp_Or_int.l0, orInt, rd, w1, w2]
    · subst ha; simp [cmp_Or_int.f, cmp_Or_int.l0, orInt, rd, hb, w1, w2]
  · simp [cmp_Or_int.f, cmp_Or_int.l0, orInt, rd, ha]
theorem compare_l0 (s t : List Int) (hs : s.length ≤ 1000000000) : ∀ (d : Nat) (i : Int), 0 ≤ i → i + d = s.length → i ≤ t.length →
    slices_Compare_int_int.l0 (d + 1) s t s (s.length : Int) i = some (cmpList (s.drop i.toNat) (t.drop i.toNat)) := by
  intro d
  induction d with
  | zero =>
    intro i h0 h1 h2
    simp only [slices_Compare_int_int.l0]
    rw [if_neg (by omega), List.drop_eq_nil_of_le (show s.length ≤ i.toNat by omega)]
    by_cases h : (s.length : Int) < t.length
    · rw [if_pos h, drop_next 0 t i h0 (by omega)]; rfl
    · rw [if_neg h, List.drop_eq_nil_of_le (show t.length ≤ i.toNat by omega)]; rfl
  | succ d ih =>
    intro i h0 h1 h2
    have hlt : i < (s.length : Int) := by omega
    rw [slices_Compare_int_int.l0]
    rw [if_pos hlt, if_pos h0, if_pos hlt, drop_next 0 s i h0 hlt]
    by_cases h : i ≥ (t.length : Int)
    · rw [if_pos h, List.drop_eq_nil_of_le (show t.length ≤ i.toNat by omega)]; rfl
    · rw [if_neg h, if_pos (by omega), compare_f, drop_next 0 t i h0 (by omega)]
      simp only [Option.bind_some, cmpList]
      by_cases hc : cmpInt (rd s i) (rd t i) = 0
      · have hc' : cmpInt (s.getD i.toNat 0) (t.getD i.toNat 0) = 0 := hc
        rw [if_pos hc, show wrap64 (i + 1) = i + 1 by unfold wrap64; omega, ih (i + 1) (by omega) (by omega) (by omega), if_pos hc']
      · have hc' : ¬ cmpInt (s.getD i.toNat 0) (t.getD i.toNat 0) = 0 := hc
        rw [if_neg hc, if_neg hc']; rfl
theorem slices_compare_f (s t : List Int) (hs : s.length ≤ 1000000000) : slices_Compare_int_int.f (s.length + 1) s t = some (cmpList s t) := by
  have := compare_l0 s t hs s.length 0 (by omega) (by omega) (by omega)
  simpa [slices_Compare_int_int.f] using this
/-- places in order -/
def cmpAt (x y : S48) : Int := orInt (cmpInt x.f0 y.f0) (cmpList x.f1 y.f1)
theorem reads_two {w : World} {g : Nat} {a b : Int} (h : w.heap[g]? = some (.cells #[.int .i64 a, .int .i64 b] 3 (0, 0))) : Kd.C (Kd.int .i64) w (some ⟨g, 0, none⟩) 2 [a, b] := by
  refine ⟨rfl, by omega, fun _ => ⟨⟨g, 0, none⟩, rfl, ?_⟩⟩
  intro j p hp
  have cell : ∀ i, w.cell? ⟨g, i, none⟩ = #[Value.int .i64 a, .int .i64 b][i]? := fun i => blk_cell h i
  match j with
  | 0 =>
    simp at hp
    subst hp
    refine ⟨[.int .i64 a], rfl, rfl, fun i u hu => ?_⟩
    match i with
    | 0 => simp at hu; subst hu; simpa [Addr.add] using cell 0
    | i + 1 => simp at hu
  | 1 =>
    simp at hp
    subst hp
    refine ⟨[.int .i64 b], rfl, rfl, fun i u hu => ?_⟩
    match i with
    | 0 => simp at hu; subst hu; exact (show w.cell? ⟨g, 1, none⟩ = _ from cell 1).trans rfl
    | i + 1 => simp at hu
  | j + 2 => simp at hp

set_option maxHeartbeats 4000000 in
set_option maxRecDepth 100000 in
theorem order_calls (a : Int) (A : Option Addr) (ca : Nat) (s : List Int) (b : Int) (B : Option Addr) (cb : Nat) (t : List Int) (w : World) (hra : Kd.C (Kd.int .i64) w A s.length s) (hca : s.length ≤ ca) (hrb : Kd.C (Kd.int .i64) w B t.length t) (hcb : t.length ≤ cb) (hs : s.length ≤ 1000000000) :
    Calls Try.prog 47 #[.agg #[.int .i64 a, .slice A s.length ca], .agg #[.int .i64 b, .slice B t.length cb]] w fun e w' => e = .returned (.int .i64 (orInt (cmpInt a b) (cmpList s t))) ∧ GD w w' := by
  have HRa := Aside0.mk hra
  have HRb := Aside0.mk hrb
  have HCa := Aside0.mk hca
  have HCb := Aside0.mk hcb
  have HS := Aside0.mk hs
  clear hra hrb hca hcb hs
  go_enter Try.func47, Try.ntmps47
  go_wp2
  have H2 : Aside0 (((w.alloc (.cells #[.int .i64 a, .slice A s.length ca] 48)).alloc (.cells #[.int .i64 b, .slice B t.length cb] 48)).drew.heap[w.heap.size]? = some (.cells #[.int .i64 a, .slice A s.length ca] 48 (0, 0))) := ⟨blk_old (blk_newAt _ rfl) _⟩
  have H3 : Aside0 (((w.alloc (.cells #[.int .i64 a, .slice A s.length ca] 48)).alloc (.cells #[.int .i64 b, .slice B t.length cb] 48)).drew.heap[w.heap.size + 1]? = some (.cells #[.int .i64 b, .slice B t.length cb] 48 (0, 0))) := ⟨blk_newAt _ (size_alloc _ _).symm⟩
  have HG : Aside0 (GD w ((w.alloc (.cells #[.int .i64 a, .slice A s.length ca] 48)).alloc (.cells #[.int .i64 b, .slice B t.length cb] 48)).drew) := ⟨(((GD.refl w).alloc _).alloc _).drew⟩
  refine start_ (n := 13) (S := fun w' => w'.cell? ⟨w.heap.size, 0, none⟩ = some (.int .i64 a) ∧ w'.cell? ⟨w.heap.size, 1, none⟩ = some (.slice A s.length ca) ∧ w'.cell? ⟨w.heap.size + 1, 0, none⟩ = some (.int .i64 b) ∧ w'.cell? ⟨w.heap.size + 1, 1, none⟩ = some (.slice B t.length cb)) (ds := []) #[false, false, false, false, false, false, false, false, false, false, false, false, false] (by kernel_rfl) rfl rfl ⟨(blk_cell H2.out 0).trans rfl, (blk_cell H2.out 1).trans rfl, (blk_cell H3.out 0).trans rfl, (blk_cell H3.out 1).trans rfl⟩ (fun hHeld => ?_)
  generalize ((w.alloc (.cells #[.int .i64 a, .slice A s.length ca] 48)).alloc (.cells #[.int .i64 b, .slice B t.length cb] 48)).drew = wd at H2 H3 HG hHeld ⊢
  refine pure_ (i := 0) (N := (some 5)) (v := ?_) (a' := ?_) #[true, false, false, false, false, false, false, false, false, false, false, false, false] rfl rfl (by kernel_rfl) (fun _ _ _ h => h) (Or.inl ⟨by rfl, ?_⟩) ?_ ?_
  rotate_left
  · intro w'
    go_simp
    with_reducible rfl
  rotate_left
  · simp only [Act.put, List.setIfInBounds_toArray, List.set_cons_zero, List.set_cons_succ, i64_w, i32_w]
    rfl
  refine pure_ (i := 2) (N := (some 7)) (v := ?_) (a' := ?_) #[true, false, true, false, false, false, false, false, false, false, false, false, false] rfl rfl (by kernel_rfl) (fun _ _ _ h => h) (Or.inl ⟨by rfl, ?_⟩) ?_ ?_
  rotate_left
  · intro w'
    go_simp
    with_reducible rfl
  rotate_left
  · simp only [Act.put, List.setIfInBounds_toArray, List.set_cons_zero, List.set_cons_succ, i64_w, i32_w]
    rfl
  refine pure_ (i := 5) (N := (some 10)) (v := ?_) (a' := ?_) #[true, false, true, false, false, true, false, false, false, false, false, false, false] rfl rfl (by kernel_rfl) (fun _ _ _ h => h) (Or.inl ⟨by rfl, ?_⟩) ?_ ?_
  rotate_left
  · intro w'
    go_simp
    with_reducible rfl
  rotate_left
  · simp only [Act.put, List.setIfInBounds_toArray, List.set_cons_zero, List.set_cons_succ, i64_w, i32_w]
    rfl
  refine pure_ (i := 7) (N := (some 12)) (v := ?_) (a' := ?_) #[true, false, true, false, false, true, false, true, false, false, false, false, false] rfl rfl (by kernel_rfl) (fun _ _ _ h => h) (Or.inl ⟨by rfl, ?_⟩) ?_ ?_
  rotate_left
  · intro w'
    go_simp
    with_reducible rfl
  rotate_left
  · simp only [Act.put, List.setIfInBounds_toArray, List.set_cons_zero, List.set_cons_succ, i64_w, i32_w]
    rfl
  refine take_ (i := 1) (N := (some 6)) (v := ?_) (a' := ?_) #[true, true, true, false, false, true, false, true, false, false, false, false, false] rfl rfl (by kernel_rfl) (fun _ _ _ h => h) (Or.inl ⟨by rfl, ?_⟩) hHeld ?_ ?_
  rotate_left
  · intro w' hS_
    obtain ⟨s0, s1, s2, s3⟩ := hS_
    go_simp
    with_reducible rfl
  rotate_left
  · simp only [Act.put, List.setIfInBounds_toArray, List.set_cons_zero, List.set_cons_succ, i64_w, i32_w]
    rfl
  refine take_ (i := 3) (N := (some 8)) (v := ?_) (a' := ?_) #[true, true, true, true, false, true, false, true, false, false, false, false, false] rfl rfl (by kernel_rfl) (fun _ _ _ h => h) (Or.inl ⟨by rfl, ?_⟩) hHeld ?_ ?_
  rotate_left
  · intro w' hS_
    obtain ⟨s0, s1, s2, s3⟩ := hS_
    go_simp
    with_reducible rfl
  rotate_left
  · simp only [Act.put, List.setIfInBounds_toArray, List.set_cons_zero, List.set_cons_succ, i64_w, i32_w]
    rfl
  refine take_ (i := 6) (N := (some 11)) (v := ?_) (a' := ?_) #[true, true, true, true, false, true, true, true, false, false, false, false, false] rfl rfl (by kernel_rfl) (fun _ _ _ h => h) (Or.inl ⟨by rfl, ?_⟩) hHeld ?_ ?_
  rotate_left
  · intro w' hS_
    obtain ⟨s0, s1, s2, s3⟩ := hS_
    go_simp
    with_reducible rfl
  rotate_left
  · simp only [Act.put, List.setIfInBounds_toArray, List.set_cons_zero, List.set_cons_succ, i64_w, i32_w]
    rfl
  refine take_ (i := 8) (N := (some 13)) (v := ?_) (a' := ?_) #[true, true, true, true, false, true, true, true, true, false, false, false, false] rfl rfl (by kernel_rfl) (fun _ _ _ h => h) (Or.inl ⟨by rfl, ?_⟩) hHeld ?_ ?_
  rotate_left
  · intro w' hS_
    obtain ⟨s0, s1, s2, s3⟩ := hS_
    go_simp
    with_reducible rfl
  rotate_left
  · simp only [Act.put, List.setIfInBounds_toArray, List.set_cons_zero, List.set_cons_succ, i64_w, i32_w]
    rfl
  refine one_ (i := 4) (N := (some 9)) #[true, true, true, true, true, true, true, true, true, false, false, false, false] rfl rfl (by kernel_rfl) (by decide) (fun K hK => ?_)
  refine goes_ Try.func59 (by kernel_rfl) rfl #[.int .i64 a, .int .i64 b] rfl rfl rfl (by (try simp only [List.map_toArray, List.map_cons, List.map_nil]); rfl) ?_
  refine (cmp_Compare_int.calls a b (cmpInt a b) _ (compare_f a b)).mono ?_
  rintro e w' ⟨rfl, ⟨nd, hnd⟩⟩
  subst hnd
  refine ⟨_, rfl, ?_⟩
  replace H2 := Aside0.mk (blk_drewN H2.out nd)
  replace H3 := Aside0.mk (blk_drewN H3.out nd)
  replace HG := Aside0.mk (HG.out.drewN nd)
  generalize hw_ : World.drewN _ nd = w1 at H2 H3 HG ⊢
  clear hw_
  refine hK.out _ _ ⟨(blk_cell H2.out 0).trans rfl, (blk_cell H2.out 1).trans rfl, (blk_cell H3.out 0).trans rfl, (blk_cell H3.out 1).trans rfl⟩ (fun hHeld => ?_)
  clear hK K
  refine norm_ (a' := ?_) ?_ ?_
  rotate_left
  · show Act.put _ (some 9) _ = _
    simp only [Act.put, List.setIfInBounds_toArray, List.set_cons_zero, List.set_cons_succ, i64_w, i32_w]
    rfl
  refine one_ (i := 9) (N := (some 14)) #[true, true, true, true, true, true, true, true, true, true, false, false, false] rfl rfl (by kernel_rfl) (by decide) (fun K hK => ?_)
  refine goes_ Try.func60 (by kernel_rfl) rfl #[.slice A s.length ca, .slice B t.length cb] rfl rfl rfl (by (try simp only [List.map_toArray, List.map_cons, List.map_nil]); rfl) ?_
  refine (slices_Compare_int_int.calls (s.length + 1) A ca s B cb t (cmpList s t) _ (Kd.C_below HRa.out HG.out.below) HCa.out (Kd.C_below HRb.out HG.out.below) HCb.out (slices_compare_f s t HS.out)).mono ?_
  rintro e w' ⟨rfl, ⟨nd, hnd⟩⟩
  subst hnd
  refine ⟨_, rfl, ?_⟩
  replace H2 := Aside0.mk (blk_drewN H2.out nd)
  replace H3 := Aside0.mk (blk_drewN H3.out nd)
  replace HG := Aside0.mk (HG.out.drewN nd)
  generalize hw_ : World.drewN _ nd = w2 at H2 H3 HG ⊢
  clear hw_
  refine hK.out _ _ ⟨(blk_cell H2.out 0).trans rfl, (blk_cell H2.out 1).trans rfl, (blk_cell H3.out 0).trans rfl, (blk_cell H3.out 1).trans rfl⟩ (fun hHeld => ?_)
  clear hK K
  refine norm_ (a' := ?_) ?_ ?_
  rotate_left
  · show Act.put _ (some 14) _ = _
    simp only [Act.put, List.setIfInBounds_toArray, List.set_cons_zero, List.set_cons_succ, i64_w, i32_w]
    rfl
  refine one_ (i := 10) (N := (some 15)) #[true, true, true, true, true, true, true, true, true, true, true, false, false] rfl rfl (by kernel_rfl) (by decide) (fun K hK => ?_)
  refine step_run (v := .slice (some ⟨w2.heap.size, 0, none⟩) 2 2) (w1 := w2.alloc (.cells #[.int .i64 (cmpInt a b), .int .i64 (cmpList s t)] 3)) rfl (by go_simp) ?_
  replace H2 := Aside0.mk (blk_old H2.out (.cells #[.int .i64 (cmpInt a b), .int .i64 (cmpList s t)] 3))
  replace H3 := Aside0.mk (blk_old H3.out (.cells #[.int .i64 (cmpInt a b), .int .i64 (cmpList s t)] 3))
  replace HG := Aside0.mk (HG.out.alloc (.cells #[.int .i64 (cmpInt a b), .int .i64 (cmpList s t)] 3))
  have HR := Aside0.mk (blk_newAt (w := w2) (n := w2.heap.size) (.cells #[.int .i64 (cmpInt a b), .int .i64 (cmpList s t)] 3) rfl)
  refine hK.out _ _ ⟨(blk_cell H2.out 0).trans rfl, (blk_cell H2.out 1).trans rfl, (blk_cell H3.out 0).trans rfl, (blk_cell H3.out 1).trans rfl⟩ (fun hHeld => ?_)
  clear hK K
  refine norm_ (a' := ?_) ?_ ?_
  rotate_left
  · show Act.put _ (some 15) _ = _
    simp only [Act.put, List.setIfInBounds_toArray, List.set_cons_zero, List.set_cons_succ, i64_w, i32_w]
    rfl
  refine one_ (i := 11) (N := (some 16)) #[true, true, true, true, true, true, true, true, true, true, true, true, false] rfl rfl (by kernel_rfl) (by decide) (fun K hK => ?_)
  refine goes_ Try.func58 (by kernel_rfl) rfl #[.slice (some ⟨w2.heap.size, 0, none⟩) 2 2] rfl rfl rfl (by (try simp only [List.map_toArray, List.map_cons, List.map_nil]); rfl) ?_
  refine (cmp_Or_int.calls 3 (some ⟨w2.heap.size, 0, none⟩) 2 [cmpInt a b, cmpList s t] (orInt (cmpInt a b) (cmpList s t)) _ (reads_two HR.out) (Nat.le_refl _) (or_f _ _)).mono ?_
  rintro e w' ⟨rfl, ⟨nd, hnd⟩⟩
  subst hnd
  refine ⟨_, rfl, ?_⟩
  replace H2 := Aside0.mk (blk_drewN H2.out nd)
  replace H3 := Aside0.mk (blk_drewN H3.out nd)
  replace HG := Aside0.mk (HG.out.drewN nd)
  generalize hw_ : World.drewN _ nd = w3 at H2 H3 HG ⊢
  clear hw_
  refine hK.out _ _ ⟨(blk_cell H2.out 0).trans rfl, (blk_cell H2.out 1).trans rfl, (blk_cell H3.out 0).trans rfl, (blk_cell H3.out 1).trans rfl⟩ (fun hHeld => ?_)
  clear hK K
  refine norm_ (a' := ?_) ?_ ?_
  rotate_left
  · show Act.put _ (some 16) _ = _
    simp only [Act.put, List.setIfInBounds_toArray, List.set_cons_zero, List.set_cons_succ, i64_w, i32_w]
    rfl
  refine pure_ (i := 12) (N := (some 4)) (v := ?_) (a' := ?_) #[true, true, true, true, true, true, true, true, true, true, true, true, true] rfl rfl (by kernel_rfl) (fun _ _ _ h => h) (Or.inl ⟨by rfl, ?_⟩) ?_ ?_
  rotate_left
  · intro w'
    go_simp
    with_reducible rfl
  rotate_left
  · simp only [Act.put, List.setIfInBounds_toArray, List.set_cons_zero, List.set_cons_succ, i64_w, i32_w]
    rfl
  refine done_ (by kernel_rfl) ?_
  try go_wp2
  go_ret
  exact ⟨rfl, HG.out⟩
end Go.Proofs.Ytjkhdldgmkkhjaa.P
set_option linter.unusedVariables false
set_option linter.unusedSimpArgs false
set_option linter.unnecessarySimpa false
namespace Go.Proofs.Ytjkhdldgmkkhjaa.P
open Go.RowKit Go.Sort Go.Shelf Go.Proofs.YtjkhdldgmkkhjaaW.PrintWords Go.Proofs.YtjkhdldgmkkhjaaW.PrintLast Go.Proofs.YtjkhdldgmkkhjaaW.PrintMore Go.Proofs.Ytjkhdldgmkkhjaa.M

abbrev TAt := S48
theorem totalAt : TotalCmp cmpAt := TotalCmp.or totalInt totalList (fun x : TAt => x.f0) (fun x : TAt => x.f1) (fun x y h1 h2 => by cases x; cases y; simp at h1 h2; rw [h1, h2])
def innerL (l6 : List TInner) (x : TAt) (sym : Int) : List TAt := (l6.filter fun r => decide (r.f0 = x.f0 ∧ r.f1 = sym)).map fun r => ⟨r.f2, x.f1⟩
def openL (l4 : List TOpen) (x : TAt) (sym : Int) : List TAt := (l4.filter fun r => decide (r.f0 = x.f0 ∧ r.f1 = sym)).map fun r => ⟨r.f2, r.f3 :: x.f1⟩
def closeL (l5 : List TClose) (x : TAt) (sym : Int) : List TAt := (l5.filter fun r => decide (r.f0 = x.f0 ∧ r.f1 = sym ∧ r.f2 = x.f1.headD 0)).map fun r => ⟨r.f3, x.f1.tail⟩
def moveL (os : List TOpen) (cs : List TClose) (is : List TInner) (kind sym : Int) (x : TAt) : List TAt := if kind = 1 then openL os x sym else if kind = 2 then closeL cs x sym else innerL is x sym
def stepL (l : List TSym) (os : List TOpen) (cs : List TClose) (is : List TInner) (at_ : List TAt) (sym : Int) : List TAt :=
  if 0 ≤ sym ∧ sym < l.length then onceC cmpAt (at_.flatMap (moveL os cs is (rd_T46 l sym).f1 sym)) else []
def stepOk (os : List TOpen) (cs : List TClose) (is : List TInner) (at_ : List TAt) : Prop := (at_.length + 1) * (os.length + cs.length + is.length + 1) ≤ 100000000 ∧ ∀ x ∈ at_, x.f1.length ≤ 10000000
instance (os : List TOpen) (cs : List TClose) (is : List TInner) (at_ : List TAt) : Decidable (stepOk os cs is at_) := by unfold stepOk; infer_instance
def runs_Step.f (l0 : List TSym) (a1_0 a1_1 : Int) (l1_2 l1_3 : List Int) (l1_4 : List TOpen) (l1_5 : List TClose) (l1_6 : List TInner) (l2 : List TAt) (a3 : Int) : Option (List TAt) :=
  if stepOk l1_4 l1_5 l1_6 l2 then some (stepL l0 l1_4 l1_5 l1_6 l2 a3) else none
def startL (init : List Int) : List TAt := onceC cmpAt (init.map fun s => ⟨s, []⟩)
def runs_Start.f (a0_0 a0_1 : Int) (l0_2 l0_3 : List Int) (l0_4 : List TOpen) (l0_5 : List TClose) (l0_6 : List TInner) : Option (List TAt) := if l0_2.length ≤ 1000000 then some (startL l0_2) else none
end Go.Proofs.Ytjkhdldgmkkhjaa.P
