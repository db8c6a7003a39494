/- canopylaw4.known: the chapter's example holds. -/
import Derived.Test.YtjkhdldgmkkhjaaSTakes
import Derived.Test.YtjkhdldgmkkhjaaSStep
import Derived.Test.YtjkhdldgmkkhjaaPCanopylaw1Syms
set_option linter.unusedVariables false
set_option linter.unusedSimpArgs false
set_option linter.unnecessarySimpa false
namespace Go.Proofs.Ytjkhdldgmkkhjaa.P
open Go.RowKit Go.Sort Go.Shelf Go.Proofs.YtjkhdldgmkkhjaaW.PrintWords Go.Proofs.YtjkhdldgmkkhjaaW.PrintLast Go.Proofs.YtjkhdldgmkkhjaaW.PrintMore Go.Proofs.Ytjkhdldgmkkhjaa.M

theorem flat_at {α : Type} {enc : α → List Value} {sz : Nat} (hk : ∀ x, (enc x).length = sz) : ∀ (l : List α) (j : Nat) (x : α) (i : Nat), l[j]? = some x → i < sz → (l.flatMap enc)[j * sz + i]? = (enc x)[i]?
  | [], j, x, i, h, _ => by simp at h
  | y :: l, 0, x, i, h, hi => by
    simp at h
    subst h
    rw [List.flatMap_cons, List.getElem?_append_left (by rw [hk]; omega)]
    simp
  | y :: l, j + 1, x, i, h, hi => by
    rw [List.flatMap_cons, List.getElem?_append_right (by rw [hk, Nat.add_mul]; omega), hk, show (j + 1) * sz + i - sz = j * sz + i by rw [Nat.add_mul]; omega]
    exact flat_at hk l j x i (by simpa using h) hi
/-- a row that was laid whole -/
theorem reads_laid {α : Type} {d : Kd α} (enc : α → List Value) {w : World} {g t : Nat} (xs : List α) (hK : ∀ w x, d.K w x (enc x)) (hl : xs.length ≤ 9223372036854775807) (h : w.heap[g]? = some (.cells (xs.flatMap enc).toArray t (0, 0))) : Kd.C d w (some ⟨g, 0, none⟩) xs.length xs := by
  have hk : ∀ x, (enc x).length = d.sz := fun x => d.K_len (hK w x)
  refine ⟨rfl, hl, fun _ => ⟨⟨g, 0, none⟩, rfl, fun j p hp => ⟨enc p, hk p, hK w p, fun i u hu => ?_⟩⟩⟩
  have hi : i < d.sz := by rw [← hk p]; exact (List.getElem?_eq_some_iff.1 hu).1
  rw [Addr.add_lit]
  have := flat_at hk xs j p i hp hi
  rw [hu] at this
  rw [show 0 + (j * d.sz + i) = j * d.sz + i by omega]
  exact (blk_cell h _).trans (by simpa using this)
def S7 : List TSym := [(⟨(⟨#[97]⟩ : ByteArray), 1⟩), (⟨(⟨#[97]⟩ : ByteArray), 2⟩), (⟨(⟨#[98]⟩ : ByteArray), 3⟩)]
def canopylaw4_known.f : Option Bool := some true
theorem syms_none : canopylaw1_Syms.f 0 [] = some S7 := by kernel_rfl
def kO : List TOpen := [⟨0, 0, 0, 1⟩]
def kC : List TClose := [⟨0, 1, 1, 1⟩]
theorem known_start : runs_Start.f 2 1 [0] [1] kO kC [] = some [⟨0, []⟩] := by kernel_rfl
theorem known_step : runs_Step.f S7 2 1 [0] [1] kO kC [] [⟨0, []⟩] 0 = some [⟨0, [1]⟩] := by kernel_rfl
theorem known_t1 : runs_Takes.f S7 2 1 [0] [1] kO kC [] [0, 1] = some true := by kernel_rfl
theorem known_t2 : runs_Takes.f S7 2 1 [0] [1] kO kC [] [0] = some false := by kernel_rfl
theorem known_t3 : runs_Takes.f S7 2 1 [0] [1] kO kC [] [1] = some false := by kernel_rfl
theorem auto_cells {w : World} {g t : Nat} {a b c d e f h : Value} (H : w.heap[g]? = some (.cells #[a, b, c, d, e, f, h] t (0, 0))) : w.cell? ⟨g, 0, none⟩ = some a ∧ w.cell? ⟨g, 1, none⟩ = some b ∧ w.cell? ⟨g, 2, none⟩ = some c ∧ w.cell? ⟨g, 3, none⟩ = some d ∧ w.cell? ⟨g, 4, none⟩ = some e ∧ w.cell? ⟨g, 5, none⟩ = some f ∧ w.cell? ⟨g, 6, none⟩ = some h ∧ g < w.heap.size :=
  ⟨(blk_cell H 0).trans rfl, (blk_cell H 1).trans rfl, (blk_cell H 2).trans rfl, (blk_cell H 3).trans rfl, (blk_cell H 4).trans rfl, (blk_cell H 5).trans rfl, (blk_cell H 6).trans rfl, blk_lt H⟩

set_option maxHeartbeats 8000000 in
set_option maxRecDepth 100000 in
theorem canopylaw4_known.calls (r : Bool) (w : World) (h : canopylaw4_known.f = some r) :
    Calls Try.prog 12 #[] w fun e w' => e = .returned (.bool r) ∧ Below w.heap.size w w' := by
  cases h
  go_enter Try.func12, Try.ntmps12
  go_wp2_with (go_at_call 13; go_loud (refine (canopylaw1_Syms.calls 0 none 0 [] S7 _ (by exact ⟨rfl, by simp, fun h => absurd h (by simp)⟩) (Nat.le_refl _) syms_none).mono ?_); rintro e w1 ⟨v1, rfl, hr1, hb1⟩; obtain ⟨AS, cS, eS, lS, gS⟩ := Kd.R_reads hr1; replace eS : v1 = .slice AS 3 cS := eS; subst eS; have HS := Aside0.mk gS; have LS := Aside0.mk lS; have HB1 := Aside0.mk hb1; clear hr1 hb1 gS lS)
  have HB2 : Aside0 (Below w.heap.size w (((((w1.alloc (.cells #[.int .i64 0] 3)).alloc (.cells #[.int .i64 1] 3)).alloc (.cells #[.int .i64 0, .int .i64 0, .int .i64 0, .int .i64 1] 52)).alloc (.cells #[.int .i64 0, .int .i64 1, .int .i64 1, .int .i64 1] 54)).alloc (.cells #[.int .i64 2, .int .i64 1, .slice (some ⟨w1.heap.size, 0, none⟩) 1 1, .slice (some ⟨w1.heap.size + 1, 0, none⟩) 1 1, .slice (some ⟨w1.heap.size + 1 + 1, 0, none⟩) 1 1, .slice (some ⟨w1.heap.size + 1 + 1 + 1, 0, none⟩) 1 1, .slice none 0 0] 30)).drew) := ⟨by repeat (first | exact HB1.out | apply below_drew | apply below_alloc)⟩
  have HSy : Aside0 (Kd.C k46 (((((w1.alloc (.cells #[.int .i64 0] 3)).alloc (.cells #[.int .i64 1] 3)).alloc (.cells #[.int .i64 0, .int .i64 0, .int .i64 0, .int .i64 1] 52)).alloc (.cells #[.int .i64 0, .int .i64 1, .int .i64 1, .int .i64 1] 54)).alloc (.cells #[.int .i64 2, .int .i64 1, .slice (some ⟨w1.heap.size, 0, none⟩) 1 1, .slice (some ⟨w1.heap.size + 1, 0, none⟩) 1 1, .slice (some ⟨w1.heap.size + 1 + 1, 0, none⟩) 1 1, .slice (some ⟨w1.heap.size + 1 + 1 + 1, 0, none⟩) 1 1, .slice none 0 0] 30)).drew AS 3 S7) := ⟨Kd.C_below HS.out (by repeat (first | exact Below.refl _ _ | apply below_drew | apply below_alloc))⟩
  have HA2 : Aside0 (Kd.C (Kd.int .i64) (((((w1.alloc (.cells #[.int .i64 0] 3)).alloc (.cells #[.int .i64 1] 3)).alloc (.cells #[.int .i64 0, .int .i64 0, .int .i64 0, .int .i64 1] 52)).alloc (.cells #[.int .i64 0, .int .i64 1, .int .i64 1, .int .i64 1] 54)).alloc (.cells #[.int .i64 2, .int .i64 1, .slice (some ⟨w1.heap.size, 0, none⟩) 1 1, .slice (some ⟨w1.heap.size + 1, 0, none⟩) 1 1, .slice (some ⟨w1.heap.size + 1 + 1, 0, none⟩) 1 1, .slice (some ⟨w1.heap.size + 1 + 1 + 1, 0, none⟩) 1 1, .slice none 0 0] 30)).drew (some ⟨w1.heap.size, 0, none⟩) 1 [0]) := ⟨reads_laid (t := 3) (fun x => [Value.int .i64 x]) [0] (fun _ _ => rfl) (by simp) (blk_old (blk_old (blk_old (blk_old (blk_newAt (w := w1) (n := w1.heap.size) _ rfl) _) _) _) _)⟩
  have HA3 : Aside0 (Kd.C (Kd.int .i64) (((((w1.alloc (.cells #[.int .i64 0] 3)).alloc (.cells #[.int .i64 1] 3)).alloc (.cells #[.int .i64 0, .int .i64 0, .int .i64 0, .int .i64 1] 52)).alloc (.cells #[.int .i64 0, .int .i64 1, .int .i64 1, .int .i64 1] 54)).alloc (.cells #[.int .i64 2, .int .i64 1, .slice (some ⟨w1.heap.size, 0, none⟩) 1 1, .slice (some ⟨w1.heap.size + 1, 0, none⟩) 1 1, .slice (some ⟨w1.heap.size + 1 + 1, 0, none⟩) 1 1, .slice (some ⟨w1.heap.size + 1 + 1 + 1, 0, none⟩) 1 1, .slice none 0 0] 30)).drew (some ⟨w1.heap.size + 1, 0, none⟩) 1 [1]) := ⟨reads_laid (t := 3) (fun x => [Value.int .i64 x]) [1] (fun _ _ => rfl) (by simp) (blk_old (blk_old (blk_old (blk_newAt _ (by simp only [size_alloc])) _) _) _)⟩
  have HA4 : Aside0 (Kd.C k52 (((((w1.alloc (.cells #[.int .i64 0] 3)).alloc (.cells #[.int .i64 1] 3)).alloc (.cells #[.int .i64 0, .int .i64 0, .int .i64 0, .int .i64 1] 52)).alloc (.cells #[.int .i64 0, .int .i64 1, .int .i64 1, .int .i64 1] 54)).alloc (.cells #[.int .i64 2, .int .i64 1, .slice (some ⟨w1.heap.size, 0, none⟩) 1 1, .slice (some ⟨w1.heap.size + 1, 0, none⟩) 1 1, .slice (some ⟨w1.heap.size + 1 + 1, 0, none⟩) 1 1, .slice (some ⟨w1.heap.size + 1 + 1 + 1, 0, none⟩) 1 1, .slice none 0 0] 30)).drew (some ⟨w1.heap.size + 1 + 1, 0, none⟩) 1 kO) := ⟨reads_laid (t := 52) (fun x : TOpen => [Value.int .i64 x.f0, .int .i64 x.f1, .int .i64 x.f2, .int .i64 x.f3]) kO (fun w x => k52_mk w x) (by simp [kO]) (blk_old (blk_old (blk_newAt _ (by simp only [size_alloc])) _) _)⟩
  have HA5 : Aside0 (Kd.C k54 (((((w1.alloc (.cells #[.int .i64 0] 3)).alloc (.cells #[.int .i64 1] 3)).alloc (.cells #[.int .i64 0, .int .i64 0, .int .i64 0, .int .i64 1] 52)).alloc (.cells #[.int .i64 0, .int .i64 1, .int .i64 1, .int .i64 1] 54)).alloc (.cells #[.int .i64 2, .int .i64 1, .slice (some ⟨w1.heap.size, 0, none⟩) 1 1, .slice (some ⟨w1.heap.size + 1, 0, none⟩) 1 1, .slice (some ⟨w1.heap.size + 1 + 1, 0, none⟩) 1 1, .slice (some ⟨w1.heap.size + 1 + 1 + 1, 0, none⟩) 1 1, .slice none 0 0] 30)).drew (some ⟨w1.heap.size + 1 + 1 + 1, 0, none⟩) 1 kC) := ⟨reads_laid (t := 54) (fun x : TClose => [Value.int .i64 x.f0, .int .i64 x.f1, .int .i64 x.f2, .int .i64 x.f3]) kC (fun w x => k54_mk w x) (by simp [kC]) (blk_old (blk_newAt _ (by simp only [size_alloc])) _)⟩
  have HAu : Aside0 ((((((w1.alloc (.cells #[.int .i64 0] 3)).alloc (.cells #[.int .i64 1] 3)).alloc (.cells #[.int .i64 0, .int .i64 0, .int .i64 0, .int .i64 1] 52)).alloc (.cells #[.int .i64 0, .int .i64 1, .int .i64 1, .int .i64 1] 54)).alloc (.cells #[.int .i64 2, .int .i64 1, .slice (some ⟨w1.heap.size, 0, none⟩) 1 1, .slice (some ⟨w1.heap.size + 1, 0, none⟩) 1 1, .slice (some ⟨w1.heap.size + 1 + 1, 0, none⟩) 1 1, .slice (some ⟨w1.heap.size + 1 + 1 + 1, 0, none⟩) 1 1, .slice none 0 0] 30)).drew.heap[w1.heap.size + 1 + 1 + 1 + 1]? = some (.cells #[.int .i64 2, .int .i64 1, .slice (some ⟨w1.heap.size, 0, none⟩) 1 1, .slice (some ⟨w1.heap.size + 1, 0, none⟩) 1 1, .slice (some ⟨w1.heap.size + 1 + 1, 0, none⟩) 1 1, .slice (some ⟨w1.heap.size + 1 + 1 + 1, 0, none⟩) 1 1, .slice none 0 0] 30 (0, 0))) := ⟨blk_newAt _ (by simp only [size_alloc])⟩
  clear HB1 HS
  refine start_ (n := 6) (S := fun w' => w'.cell? ⟨w1.heap.size + 1 + 1 + 1 + 1, 0, none⟩ = some (.int .i64 2) ∧ w'.cell? ⟨w1.heap.size + 1 + 1 + 1 + 1, 1, none⟩ = some (.int .i64 1) ∧ w'.cell? ⟨w1.heap.size + 1 + 1 + 1 + 1, 2, none⟩ = some (.slice (some ⟨w1.heap.size, 0, none⟩) 1 1) ∧ w'.cell? ⟨w1.heap.size + 1 + 1 + 1 + 1, 3, none⟩ = some (.slice (some ⟨w1.heap.size + 1, 0, none⟩) 1 1) ∧ w'.cell? ⟨w1.heap.size + 1 + 1 + 1 + 1, 4, none⟩ = some (.slice (some ⟨w1.heap.size + 1 + 1, 0, none⟩) 1 1) ∧ w'.cell? ⟨w1.heap.size + 1 + 1 + 1 + 1, 5, none⟩ = some (.slice (some ⟨w1.heap.size + 1 + 1 + 1, 0, none⟩) 1 1) ∧ w'.cell? ⟨w1.heap.size + 1 + 1 + 1 + 1, 6, none⟩ = some (.slice none 0 0)) (ds := [4]) #[false, false, false, false, false, false] (by kernel_rfl) rfl rfl ⟨(blk_cell HAu.out 0).trans rfl, (blk_cell HAu.out 1).trans rfl, (blk_cell HAu.out 2).trans rfl, (blk_cell HAu.out 3).trans rfl, (blk_cell HAu.out 4).trans rfl, (blk_cell HAu.out 5).trans rfl, (blk_cell HAu.out 6).trans rfl⟩ (fun hHeld => ?_)
  generalize (((((w1.alloc (.cells #[.int .i64 0] 3)).alloc (.cells #[.int .i64 1] 3)).alloc (.cells #[.int .i64 0, .int .i64 0, .int .i64 0, .int .i64 1] 52)).alloc (.cells #[.int .i64 0, .int .i64 1, .int .i64 1, .int .i64 1] 54)).alloc (.cells #[.int .i64 2, .int .i64 1, .slice (some ⟨w1.heap.size, 0, none⟩) 1 1, .slice (some ⟨w1.heap.size + 1, 0, none⟩) 1 1, .slice (some ⟨w1.heap.size + 1 + 1, 0, none⟩) 1 1, .slice (some ⟨w1.heap.size + 1 + 1 + 1, 0, none⟩) 1 1, .slice none 0 0] 30)).drew = wb at HB2 HSy HA2 HA3 HA4 HA5 HAu hHeld ⊢
  refine pure_ (i := 0) (N := (some 12)) (v := ?_) (a' := ?_) #[true, false, false, false, false, false] rfl rfl (by kernel_rfl) (fun _ _ _ h => h) (Or.inl ⟨by rfl, ?_⟩) ?_ ?_
  rotate_left
  · intro w'
    go_simp
    with_reducible rfl
  rotate_left
  · simp only [Act.put, List.setIfInBounds_toArray, List.set_cons_zero, List.set_cons_succ, i64_w, i32_w]
    rfl
  refine take_ (i := 1) (N := (some 13)) (v := ?_) (a' := ?_) #[true, true, false, false, false, false] rfl rfl (by kernel_rfl) (fun _ _ _ h => h) (Or.inl ⟨by rfl, ?_⟩) hHeld ?_ ?_
  rotate_left
  · intro w' hS_
    obtain ⟨s0, s1, s2, s3, s4, s5, s6⟩ := hS_
    go_simp
    with_reducible rfl
  rotate_left
  · simp only [Act.put, List.setIfInBounds_toArray, List.set_cons_zero, List.set_cons_succ, i64_w, i32_w]
    rfl
  refine take_ (i := 2) (N := (some 14)) (v := ?_) (a' := ?_) #[true, true, true, false, false, false] rfl rfl (by kernel_rfl) (fun _ _ _ h => h) (Or.inl ⟨by rfl, ?_⟩) hHeld ?_ ?_
  rotate_left
  · intro w' hS_
    obtain ⟨s0, s1, s2, s3, s4, s5, s6⟩ := hS_
    go_simp
    with_reducible rfl
  rotate_left
  · simp only [Act.put, List.setIfInBounds_toArray, List.set_cons_zero, List.set_cons_succ, i64_w, i32_w]
    rfl
  refine one_ (i := 3) (N := (some 15)) #[true, true, true, true, false, false] rfl rfl (by kernel_rfl) (by decide) (fun K hK => ?_)
  refine goes_ Try.func17 (by kernel_rfl) rfl #[.agg #[.int .i64 2, .int .i64 1, .slice (some ⟨w1.heap.size, 0, none⟩) 1 1, .slice (some ⟨w1.heap.size + 1, 0, none⟩) 1 1, .slice (some ⟨w1.heap.size + 1 + 1, 0, none⟩) 1 1, .slice (some ⟨w1.heap.size + 1 + 1 + 1, 0, none⟩) 1 1, .slice none 0 0]] rfl rfl rfl (by (try simp only [List.map_toArray, List.map_cons, List.map_nil]); rfl) ?_
  refine (runs_Start.calls 2 1 (some ⟨w1.heap.size, 0, none⟩) 1 [0] (some ⟨w1.heap.size + 1, 0, none⟩) 1 [1] (some ⟨w1.heap.size + 1 + 1, 0, none⟩) 1 kO (some ⟨w1.heap.size + 1 + 1 + 1, 0, none⟩) 1 kC none 0 [] [⟨0, []⟩] wb HA2.out (by simp) HA3.out (by simp) HA4.out (by simp [kO]) HA5.out (by simp [kC]) ⟨rfl, by simp, fun h => absurd h (by simp)⟩ (by simp) known_start).mono ?_
  rintro e wc ⟨v5, rfl, hs5, hb5⟩
  refine ⟨_, rfl, ?_⟩
  obtain ⟨A5, c5, e5, l5, g5⟩ := Kd.S_reads hs5
  replace e5 : v5 = .slice A5 1 c5 := e5
  subst e5
  have HP := Aside0.mk g5
  have LP := Aside0.mk l5
  have HBc := Aside0.mk hb5
  have HAc := Aside0.mk ((hb5.block _ (blk_lt HAu.out)).trans HAu.out)
  clear hs5 hb5 g5 l5 hHeld
  refine hK.out _ _ ⟨(blk_cell HAc.out 0).trans rfl, (blk_cell HAc.out 1).trans rfl, (blk_cell HAc.out 2).trans rfl, (blk_cell HAc.out 3).trans rfl, (blk_cell HAc.out 4).trans rfl, (blk_cell HAc.out 5).trans rfl, (blk_cell HAc.out 6).trans rfl⟩ (fun hHeld => ?_)
  clear hK K
  refine norm_ (a' := ?_) ?_ ?_
  rotate_left
  · show Act.put _ (some 15) _ = _
    simp only [Act.put, List.setIfInBounds_toArray, List.set_cons_zero, List.set_cons_succ, i64_w, i32_w]
    rfl
  refine last_ (i := 4) (N := (some 16)) #[true, true, true, true, true, false] rfl rfl (by kernel_rfl) (by decide) (fun K hK => ?_)
  refine goes_ Try.func21 (by kernel_rfl) rfl #[.slice AS 3 cS, .agg #[.int .i64 2, .int .i64 1, .slice (some ⟨w1.heap.size, 0, none⟩) 1 1, .slice (some ⟨w1.heap.size + 1, 0, none⟩) 1 1, .slice (some ⟨w1.heap.size + 1 + 1, 0, none⟩) 1 1, .slice (some ⟨w1.heap.size + 1 + 1 + 1, 0, none⟩) 1 1, .slice none 0 0], .slice A5 1 c5, .int .i64 0] rfl rfl rfl (by (try simp only [List.map_toArray, List.map_cons, List.map_nil]); rfl) ?_
  refine (runs_Step.calls AS cS S7 2 1 (some ⟨w1.heap.size, 0, none⟩) 1 [0] (some ⟨w1.heap.size + 1, 0, none⟩) 1 [1] (some ⟨w1.heap.size + 1 + 1, 0, none⟩) 1 kO (some ⟨w1.heap.size + 1 + 1 + 1, 0, none⟩) 1 kC none 0 [] A5 c5 [⟨0, []⟩] 0 [⟨0, [1]⟩] wc (Kd.C_below HSy.out HBc.out) LS.out (Kd.C_below HA2.out HBc.out) (by simp) (Kd.C_below HA3.out HBc.out) (by simp) (Kd.C_below HA4.out HBc.out) (by simp [kO]) (Kd.C_below HA5.out HBc.out) (by simp [kC]) ⟨rfl, by simp, fun h => absurd h (by simp)⟩ (by simp) HP.out LP.out known_step).mono ?_
  rintro e we ⟨v6, rfl, hs6, hb6⟩
  refine ⟨_, rfl, ?_⟩
  obtain ⟨A6, c6, e6, l6, g6⟩ := Kd.S_reads hs6
  replace e6 : v6 = .slice A6 1 c6 := e6
  subst e6
  have HP6 := Aside0.mk g6
  have HBe := Aside0.mk (thn HBc.out hb6)
  clear hs6 hb6 g6 l6 hHeld
  refine hK.out _ _ ?_
  clear hK K
  refine norm_ (a' := ?_) ?_ ?_
  rotate_left
  · show Act.put _ (some 16) _ = _
    simp only [Act.put, List.setIfInBounds_toArray, List.set_cons_zero, List.set_cons_succ, i64_w, i32_w]
    rfl
  refine pure_ (i := 5) (N := (some 3)) (v := ?_) (a' := ?_) #[true, true, true, true, true, true] rfl rfl (by kernel_rfl) (fun _ _ _ h => h) (Or.inl ⟨by rfl, ?_⟩) ?_ ?_
  rotate_left
  · intro w'
    go_simp
    with_reducible rfl
  rotate_left
  · simp only [Act.put, List.setIfInBounds_toArray, List.set_cons_zero, List.set_cons_succ, i64_w, i32_w]
    rfl
  refine done_ (by kernel_rfl) ?_
  obtain ⟨ad6, A60, c60, e60, hq0, hq1, hq2, hq3⟩ := at_T48 HP6.out 0 (by omega) (by show (0 : Int) < 1; omega)
  replace e60 : A6 = some ad6 := e60
  subst e60
  have ea : ad6.add ((0 : Int).toNat * 2) = ad6 := by obtain ⟨b_, o_, s_⟩ := ad6; cases s_ <;> simp [Addr.add]
  rw [ea] at hq1
  have hq4 : we.cell? ⟨ad6.block, ad6.off + 1, none⟩ = some (.slice A60 1 c60) := hq1
  have HQ4 := Aside0.mk hq4
  have HBX := HBe
  have tok1 : Aside0 True := ⟨trivial⟩
  have tok2 : Aside0 True := ⟨trivial⟩
  have tok3 : Aside0 True := ⟨trivial⟩
  obtain ⟨s0, s1, s2, s3, s4, s5, s6, sl⟩ := auto_cells ((HBX.out.block _ (blk_lt HAu.out)).trans HAu.out)
  clear hq0 hq1 hq2 hq3 hq4 ea HAc HBc HP LP
  go_wp2_with (first
    | (go_at_call 17; go_loud (refine (start_calls 0 0 none 0 [] (.slice none 0 0) (.slice none 0 0) (.slice none 0 0) (.slice none 0 0) rfl rfl rfl rfl _ ⟨rfl, by simp, fun h => absurd h (by simp)⟩ (by simp)).mono ?_); rintro e ws ⟨v7, rfl, hs7, hb7⟩; obtain ⟨A7, c7, e7, l7, g7⟩ := Kd.S_reads hs7; replace e7 : v7 = .slice A7 0 c7 := e7; subst e7; have hq5 := (hb7.cell (World.block_lt_of_cell? we _ HQ4.out)).trans HQ4.out; replace HBX := Aside0.mk (thn HBX.out hb7); clear s0 s1 s2 s3 s4 s5 s6 sl hs7 hb7 l7 g7; obtain ⟨s0, s1, s2, s3, s4, s5, s6, sl⟩ := auto_cells ((HBX.out.block _ (blk_lt HAu.out)).trans HAu.out))
    | (go_at_call 23; (first | (clear tok1; (refine (runs_Takes.calls AS cS S7 2 1 (some ⟨w1.heap.size, 0, none⟩) 1 [0] (some ⟨w1.heap.size + 1, 0, none⟩) 1 [1] (some ⟨w1.heap.size + 1 + 1, 0, none⟩) 1 kO (some ⟨w1.heap.size + 1 + 1 + 1, 0, none⟩) 1 kC none 0 [] (some ⟨_, 0, none⟩) 2 [0, 1] true _ (Kd.C_below HSy.out (below_alloc HBX.out _)) LS.out (Kd.C_below HA2.out (below_alloc HBX.out _)) (by simp) (Kd.C_below HA3.out (below_alloc HBX.out _)) (by simp) (Kd.C_below HA4.out (below_alloc HBX.out _)) (by simp [kO]) (Kd.C_below HA5.out (below_alloc HBX.out _)) (by simp [kC]) ⟨rfl, by simp, fun h => absurd h (by simp)⟩ (by simp) (reads_laid (t := 3) (fun x => [Value.int .i64 x]) [0, 1] (fun _ _ => rfl) (by simp) (blk_newAt _ rfl)) (by simp) known_t1).mono ?_)) | (clear tok2; (refine (runs_Takes.calls AS cS S7 2 1 (some ⟨w1.heap.size, 0, none⟩) 1 [0] (some ⟨w1.heap.size + 1, 0, none⟩) 1 [1] (some ⟨w1.heap.size + 1 + 1, 0, none⟩) 1 kO (some ⟨w1.heap.size + 1 + 1 + 1, 0, none⟩) 1 kC none 0 [] (some ⟨_, 0, none⟩) 1 [0] false _ (Kd.C_below HSy.out (below_alloc HBX.out _)) LS.out (Kd.C_below HA2.out (below_alloc HBX.out _)) (by simp) (Kd.C_below HA3.out (below_alloc HBX.out _)) (by simp) (Kd.C_below HA4.out (below_alloc HBX.out _)) (by simp [kO]) (Kd.C_below HA5.out (below_alloc HBX.out _)) (by simp [kC]) ⟨rfl, by simp, fun h => absurd h (by simp)⟩ (by simp) (reads_laid (t := 3) (fun x => [Value.int .i64 x]) [0] (fun _ _ => rfl) (by simp) (blk_newAt _ rfl)) (by simp) known_t2).mono ?_)) | (clear tok3; (refine (runs_Takes.calls AS cS S7 2 1 (some ⟨w1.heap.size, 0, none⟩) 1 [0] (some ⟨w1.heap.size + 1, 0, none⟩) 1 [1] (some ⟨w1.heap.size + 1 + 1, 0, none⟩) 1 kO (some ⟨w1.heap.size + 1 + 1 + 1, 0, none⟩) 1 kC none 0 [] (some ⟨_, 0, none⟩) 1 [1] false _ (Kd.C_below HSy.out (below_alloc HBX.out _)) LS.out (Kd.C_below HA2.out (below_alloc HBX.out _)) (by simp) (Kd.C_below HA3.out (below_alloc HBX.out _)) (by simp) (Kd.C_below HA4.out (below_alloc HBX.out _)) (by simp [kO]) (Kd.C_below HA5.out (below_alloc HBX.out _)) (by simp [kC]) ⟨rfl, by simp, fun h => absurd h (by simp)⟩ (by simp) (reads_laid (t := 3) (fun x => [Value.int .i64 x]) [1] (fun _ _ => rfl) (by simp) (blk_newAt _ rfl)) (by simp) known_t3).mono ?_))); rintro e ws ⟨rfl, hb7⟩; replace HBX := Aside0.mk (thn (below_alloc HBX.out _) hb7); clear s0 s1 s2 s3 s4 s5 s6 sl hb7; obtain ⟨s0, s1, s2, s3, s4, s5, s6, sl⟩ := auto_cells ((HBX.out.block _ (blk_lt HAu.out)).trans HAu.out)))
  go_ret
  exact ⟨rfl, thn HB2.out HBX.out⟩
end Go.Proofs.Ytjkhdldgmkkhjaa.P
