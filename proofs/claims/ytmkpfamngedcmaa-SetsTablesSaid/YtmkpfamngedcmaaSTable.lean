/- sets.Table: what it is; find. -/
import Derived.Test.YtmkpfamngedcmaaSSame
import Derived.Test.YtmkpfamngedcmaaPSetsSum
set_option linter.unusedVariables false
set_option linter.unusedSimpArgs false
set_option linter.unnecessarySimpa false
namespace Go.Proofs.Ytmkpfamngedcmaa.P
open Go.RowKit Go.Proofs.YtmkpfamngedcmaaW.PrintWords Go.Proofs.YtmkpfamngedcmaaW.PrintLast Go.Proofs.YtmkpfamngedcmaaW.PrintMore Go.Proofs.Ytmkpfamngedcmaa.M

theorem sum_loop (p : List TPair) (hl : p.length ≤ 1000000000) : ∀ (d : Nat) (i : Int), 0 ≤ i → i ≤ p.length → p.length - i = d → ∀ h k, d < k → ∃ r, sets_sum.l0 k h p (p.length : Int) i = some r
  | d, i, h0, h1, hd, h, k + 1, hk => by
    unfold sets_sum.l0
    by_cases c : i < (p.length : Int)
    · obtain ⟨d, rfl⟩ : ∃ e, d = e + 1 := ⟨d - 1, by omega⟩
      rw [if_pos c, if_pos h0, if_pos c]
      unfold sets_Pack.f
      simp only [Option.bind_some]
      rw [show wrap64 (i + 1) = i + 1 by unfold wrap64; omega]
      exact sum_loop p hl d (i + 1) (by omega) (by omega) (by omega) _ k (by omega)
    · rw [if_neg c]; exact ⟨_, rfl⟩
theorem sum_total (p : List TPair) (hl : p.length ≤ 1000000000) : ∃ r, sets_sum.f (p.length + 1) p = some r := sum_loop p hl p.length 0 (by omega) (by omega) (by omega) _ _ (by omega)
def sumL (p : List TPair) : Int := (sets_sum.f (p.length + 1) p).getD 0
theorem sum_calls (A : Option Addr) (c : Nat) (p : List TPair) (w : World) (hr : Kd.C k27 w A p.length p) (hc : p.length ≤ c) (hl : p.length ≤ 1000000000) :
    Calls Try.prog 50 #[.slice A p.length c] w fun e w' => e = .returned (.int .u64 (sumL p)) ∧ Below w.heap.size w w' := by
  obtain ⟨r, h⟩ := sum_total p hl
  have e : sumL p = r := by unfold sumL; rw [h]; rfl
  rw [e]
  exact sets_sum.calls (p.length + 1) A c p r w hr hc h
abbrev MapW (w : World) (b : Nat) (m : List (Int × Value)) : Prop := MapIs (Value.int .u64) (fun v : Value => v) w b m
theorem run_lookOp {P : Program} {o : Oper} {a : Act} {w : World} {b : Nat} {m : List (Int × Value)} {kt et : TypeId} (x y : Operand) (t : TypeId) (hop : o.op = Op.lookup t x y false) (ht : P.underlying t = some (.map kt et)) (K : KeyB P kt (Value.int .u64)) (hm : a.eval x = .map (some b)) (h : MapW w b m) (k : Int) (hk : a.eval y = .int .u64 k) (z : Value) (hz : (zeroValue et).run P w = .ok z w) :
    (execOp a.eval o).run P w = .ok (.value ((asc m k).getD z)) w := by
  simp [execOp, hop, hm, hk, MapIs.run_lookup K ht h k z hz false, Result.andThen]
theorem key64 : KeyB Try.prog 38 (Value.int .u64) := keyB_int Try.underlying38
instance decPair : DecidableEq TPair := fun a b => decidable_of_iff (a.f0 = b.f0 ∧ a.f1 = b.f1) ⟨fun h => by cases a; cases b; simp only at h; rw [h.1, h.2], fun h => by rw [h]; exact ⟨rfl, rfl⟩⟩
/-- what a call keeps: the streams, and all blocks but those of S and the new ones -/
structure Fr (S : Nat → Prop) (w w' : World) : Prop where
  os : w'.os = w.os
  tape : w'.tape = w.tape
  output : w'.output = w.output
  kept : Kept w w' S
section
variable {S : Nat → Prop} {a b c : World}
theorem Fr.refl (S : Nat → Prop) (w : World) : Fr S w w := ⟨rfl, rfl, rfl, Kept.refl _ _⟩
theorem Fr.of_below (h : Below a.heap.size a b) : Fr S a b := ⟨h.os, h.tape, h.output, Kept.of_below h S⟩
theorem Fr.below (h : Fr S a b) (k : Below b.heap.size b c) : Fr S a c := ⟨k.os.trans h.os, k.tape.trans h.tape, k.output.trans h.output, h.kept.below k⟩
theorem Fr.then_ {S2 : Nat → Prop} (h : Fr S a b) (k : Fr S2 b c) (hs : ∀ k, S2 k → S k ∨ a.heap.size ≤ k) : Fr S a c := ⟨k.os.trans h.os, k.tape.trans h.tape, k.output.trans h.output, h.kept.then_ k.kept hs⟩
theorem Fr.grown {row : Option Nat} (h : Fr S a b) (g : b.grownBy c row) (hr : ∀ k, row = some k → S k ∨ a.heap.size ≤ k) : Fr S a c := ⟨g.os.trans h.os, g.tape.trans h.tape, g.output.trans h.output, Kept.of_grown g h.kept hr⟩
theorem Fr.set (h : Fr S a b) {p : Addr} (hp : S p.block ∨ a.heap.size ≤ p.block) (u : Value) : Fr S a (b.setCell p u) := ⟨h.os, h.tape, h.output, h.kept.setCell hp u⟩
theorem Fr.base {B : Nat} (h : Fr S a b) (hb : B ≤ a.heap.size) (hs : ∀ k, S k → B ≤ k) : Below B a b := ⟨h.os, h.tape, h.output, h.kept.1, fun k hk => h.kept.2 k (by omega) (fun hS => by have := hs k hS; omega)⟩
end
abbrev kRow : Kd (List TPair) := Kd.slice 27 k27
def okR (gt bm : Nat) (ft : Nat → Prop) (m : List (Int × Value)) (k : Nat) : Prop := ft k ∧ k ≠ gt ∧ k ≠ bm ∧ ∀ h v, asc m h = some v → some k ≠ v.ownBlock
/-- the table at gt, in blocks of ft alone, has these rows -/
structure TabR (w : World) (gt bm : Nat) (ft : Nat → Prop) (rows : List (List TPair)) (vr : Value) (m : List (Int × Value)) : Prop where
  lt : ∀ k, ft k → k < w.heap.size
  gin : ft gt
  bin : ft bm
  nd : rows.Nodup
  ok : ∀ r ∈ rows, r.length ≤ 1000000000
  t : w.heap[gt]? = some (.cells #[vr, .map (some bm)] 61 (0, 0))
  n : Kd.N kRow 24 w 0 (okR gt bm ft m) vr rows
  mp : MapW w bm m
  has : ∀ h v, asc m h = some v → ∃ js : List Nat, w.ownsRow 0 3 1 v js.length (js.map fun (i : Nat) => Value.int .i64 (i : Int)) ∧ js.length ≤ rows.length ∧ (∃ k, v.ownBlock = some k ∧ ft k) ∧ ∀ i, i ∈ js ↔ ∃ r, rows[i]? = some r ∧ sumL r = h
  non : ∀ h, asc m h = none → ∀ r ∈ rows, sumL r ≠ h
  inj : ∀ h h' v v', asc m h = some v → asc m h' = some v' → v.ownBlock = v'.ownBlock → h = h'
def Tab (w : World) (gt : Nat) (ft : Nat → Prop) (rows : List (List TPair)) : Prop := ∃ bm vr m, TabR w gt bm ft rows vr m
theorem TabR.step {w w1 : World} {gt bm : Nat} {ft : Nat → Prop} {rows : List (List TPair)} {vr : Value} {m : List (Int × Value)} (h : TabR w gt bm ft rows vr m) (hs : w.heap.size ≤ w1.heap.size) (hm : ∀ k, ft k → w1.heap[k]? = w.heap[k]?) : TabR w1 gt bm ft rows vr m :=
  ⟨fun k hk => Nat.lt_of_lt_of_le (h.lt k hk) hs, h.gin, h.bin, h.nd, h.ok, (hm _ h.gin).trans h.t, Kd.N_step h.n (fun k hk _ => hm k hk.1), h.mp.move (hm _ h.bin),
    fun x v hv => by
      obtain ⟨js, ho, hjl, ⟨k, hk, hf⟩, hi⟩ := h.has x v hv
      exact ⟨js, own_move ho (fun q hq => by rw [hk] at hq; cases hq; exact hm _ hf), hjl, ⟨k, hk, hf⟩, hi⟩, h.non, h.inj⟩
theorem TabR.below {w w1 : World} {gt bm : Nat} {ft : Nat → Prop} {rows : List (List TPair)} {vr : Value} {m : List (Int × Value)} (h : TabR w gt bm ft rows vr m) (b : Below w.heap.size w w1) : TabR w1 gt bm ft rows vr m := h.step b.size (fun k hk => b.block k (h.lt k hk))
theorem Tab.below {w w1 : World} {gt : Nat} {ft : Nat → Prop} {rows : List (List TPair)} (h : Tab w gt ft rows) (b : Below w.heap.size w w1) : Tab w1 gt ft rows := by
  obtain ⟨bm, vr, m, h⟩ := h
  exact ⟨bm, vr, m, h.below b⟩
theorem Tab.apart {S : Nat → Prop} {w w1 : World} {gt : Nat} {ft : Nat → Prop} {rows : List (List TPair)} (h : Tab w gt ft rows) (b : Fr S w w1) (hs : ∀ k, ft k → ¬ S k) : Tab w1 gt ft rows := by
  obtain ⟨bm, vr, m, h⟩ := h
  exact ⟨bm, vr, m, h.step b.kept.1 (fun k hk => b.kept.2 k (h.lt k hk) (hs k hk))⟩
theorem slice_of {w : World} {gt bm : Nat} {ft : Nat → Prop} {rows : List (List TPair)} {vr : Value} {m : List (Int × Value)} (h : TabR w gt bm ft rows vr m) {x : Int} {v : Value} (hv : (asc m x).getD (.slice none 0 0) = v) : ∃ A n c, v = .slice A n c := by
  cases ha : asc m x with
  | none => rw [ha] at hv; exact ⟨none, 0, 0, hv.symm⟩
  | some u =>
    rw [ha] at hv
    obtain rfl : u = v := hv
    obtain ⟨js, ho, _⟩ := h.has _ _ ha
    obtain ⟨A, c, e⟩ := own_slice ho
    exact ⟨A, _, c, e⟩
def rdRow (xs : List (List TPair)) (i : Int) : List TPair := xs.getD i.toNat ([] : List TPair)
theorem atRow {w : World} {A : Option Addr} {n : Nat} {xs : List (List TPair)} (h : Kd.C kRow w A n xs) (i : Int) (h0 : 0 ≤ i) (h1 : i < n) : ∃ ad A0 c0, A = some ad ∧ w.cell? (ad.add i.toNat) = some (.slice A0 (rdRow xs i).length c0) ∧ (rdRow xs i).length ≤ c0 ∧ k27.C w A0 (rdRow xs i).length (rdRow xs i) := by
  obtain ⟨ad, c, e, _, hK, hc0⟩ := Kd.C_get h ([] : List TPair) i h0 h1
  have hc : ∀ j u, c[j]? = some u → w.cell? (ad.add (i.toNat * 1 + j)) = some u := hc0
  obtain ⟨A0, c0, rfl, l0, g0⟩ := hK
  exact ⟨ad, A0, c0, e, by have hq := hc 0 _ rfl; rwa [Nat.mul_one, Nat.add_zero] at hq, l0, g0⟩
theorem own_cell {w : World} {g n cap : Nat} {e : TypeId} {xs : List Value} (h : w.ownsRow 0 e 1 (.slice (some ⟨g, 0, none⟩) n cap) n xs) (j : Nat) (x : Value) (hx : xs[j]? = some x) : w.cell? ⟨g, j, none⟩ = some x := by
  obtain ⟨h1, h2⟩ := h
  rcases h2 with ⟨h2, _⟩ | ⟨g', cap', cur, h2, _, hh, _, _, _, ht⟩
  · cases h2
  · cases h2
    rw [blk_cell hh]
    have hj := (List.getElem?_eq_some_iff.1 hx).1
    rw [← ht, List.getElem?_take] at hx
    split at hx
    · rwa [Array.getElem?_toList] at hx
    · cases hx
theorem own_max {w : World} {e : TypeId} {size n : Nat} {v : Value} {xs : List Value} (h : w.ownsRow 0 e size v n xs) : n ≤ maxLen := by
  rcases h.2 with ⟨_, h2⟩ | ⟨g', cap', cur, _, _, _, h3, h4, _⟩ <;> omega
/-- where a row is; -1: nowhere -/
def atR (rows : List (List TPair)) (p : List TPair) : Int := if p ∈ rows then (rows.idxOf p : Int) else -1
theorem atR_hit {rows : List (List TPair)} {p : List TPair} {i : Nat} (hn : rows.Nodup) (h : rows[i]? = some p) : atR rows p = i := by
  have hm : p ∈ rows := List.mem_of_getElem? h
  obtain ⟨hi, he⟩ := List.getElem?_eq_some_iff.1 h
  unfold atR
  rw [if_pos hm, ← he, hn.idxOf_getElem]
theorem atR_miss {rows : List (List TPair)} {p : List TPair} (h : p ∉ rows) : atR rows p = -1 := if_neg h
set_option maxHeartbeats 8000000 in
set_option maxRecDepth 100000 in
theorem findR (gt bm : Nat) (ft : Nat → Prop) (rows : List (List TPair)) (vr : Value) (m : List (Int × Value)) (A : Option Addr) (c : Nat) (p : List TPair) (w : World) (h : TabR w gt bm ft rows vr m) (hr : Kd.C k27 w A p.length p) (hc : p.length ≤ c) (hl : p.length ≤ 1000000000) (hn : rows.length ≤ 1000000000) :
    Calls Try.prog 49 #[.pointer (some ⟨gt, 0, none⟩), .slice A p.length c] w fun e w' => e = .returned (.int .i64 (atR rows p)) ∧ Below w.heap.size w w' := by
  obtain ⟨Ar, cr, rfl⟩ := Kd.N_slice h.n
  have HT := Aside0.mk h
  have HR := Aside0.mk hr
  have HL := Aside0.mk (And.intro hl (And.intro hc hn))
  clear h hr hc hl hn
  go_enter Try.func49, Try.ntmps49
  go_wp2
  refine start_ (n := 9) (S := fun w' => w'.cell? ⟨gt, 1, none⟩ = some (.map (some bm))) (ds := []) #[false, false, false, false, false, false, false, false, false] (by kernel_rfl) rfl rfl ((blk_cell HT.out.t 1).trans rfl) (fun hHeld => ?_)
  have HTd := Aside0.mk (HT.out.below (below_drew (Below.refl _ _)))
  have HBd : Aside0 (Below w.heap.size w w.drew) := ⟨below_drew (Below.refl _ _)⟩
  have HRd := Aside0.mk (Kd.C_drew HR.out)
  generalize w.drew = wd at HTd HBd HRd hHeld ⊢
  refine pure_ (i := 0) (N := (some 7)) (v := ?_) (a' := ?_) #[true, false, false, false, false, false, false, false, false] rfl rfl (by kernel_rfl) (fun _ _ _ h => h) (Or.inl ⟨by rfl, ?_⟩) ?_ ?_
  rotate_left
  · intro w'
    go_simp
    with_reducible rfl
  rotate_left
  · simp only [Act.put, List.setIfInBounds_toArray, List.set_cons_zero, List.set_cons_succ, i64_w, i32_w]
    rfl
  refine pure_ (i := 1) (N := (some 8)) (v := ?_) (a' := ?_) #[true, true, false, false, false, false, false, false, false] rfl rfl (by kernel_rfl) (fun _ _ _ h => h) (Or.inl ⟨by rfl, ?_⟩) ?_ ?_
  rotate_left
  · intro w'
    go_simp
    with_reducible rfl
  rotate_left
  · simp only [Act.put, List.setIfInBounds_toArray, List.set_cons_zero, List.set_cons_succ, i64_w, i32_w]
    rfl
  refine pure_ (i := 2) (N := (some 9)) (v := ?_) (a' := ?_) #[true, true, true, false, false, false, false, false, false] rfl rfl (by kernel_rfl) (fun _ _ _ h => h) (Or.inl ⟨by rfl, ?_⟩) ?_ ?_
  rotate_left
  · intro w'
    go_simp
    with_reducible rfl
  rotate_left
  · simp only [Act.put, List.setIfInBounds_toArray, List.set_cons_zero, List.set_cons_succ, i64_w, i32_w]
    rfl
  refine take_ (i := 3) (N := (some 10)) (v := ?_) (a' := ?_) #[true, true, true, true, false, false, false, false, false] rfl rfl (by kernel_rfl) (fun _ _ _ h => h) (Or.inl ⟨by rfl, ?_⟩) hHeld ?_ ?_
  rotate_left
  · intro w' hS_
    go_simp
    with_reducible rfl
  rotate_left
  · simp only [Act.put, List.setIfInBounds_toArray, List.set_cons_zero, List.set_cons_succ, i64_w, i32_w]
    rfl
  refine pure_ (i := 4) (N := (some 11)) (v := ?_) (a' := ?_) #[true, true, true, true, true, false, false, false, false] rfl rfl (by kernel_rfl) (fun _ _ _ h => h) (Or.inl ⟨by rfl, ?_⟩) ?_ ?_
  rotate_left
  · intro w'
    go_simp
    with_reducible rfl
  rotate_left
  · simp only [Act.put, List.setIfInBounds_toArray, List.set_cons_zero, List.set_cons_succ, i64_w, i32_w]
    rfl
  refine pure_ (i := 8) (N := (some 15)) (v := ?_) (a' := ?_) #[true, true, true, true, true, false, false, false, true] rfl rfl (by kernel_rfl) (fun _ _ _ h => h) (Or.inl ⟨by rfl, ?_⟩) ?_ ?_
  rotate_left
  · intro w'
    go_simp
    with_reducible rfl
  rotate_left
  · simp only [Act.put, List.setIfInBounds_toArray, List.set_cons_zero, List.set_cons_succ, i64_w, i32_w]
    rfl
  refine one_ (i := 5) (N := (some 12)) #[true, true, true, true, true, true, false, false, true] rfl rfl (by kernel_rfl) (by decide) (fun K hK => ?_)
  refine goes_ Try.func50 (by kernel_rfl) rfl #[.slice A p.length c] rfl rfl rfl (by (try simp only [List.map_toArray, List.map_cons, List.map_nil]); rfl) ?_
  refine (sum_calls A c p wd HRd.out HL.out.2.1 HL.out.1).mono ?_
  rintro e w3 ⟨rfl, hb⟩
  have HB3 := Aside0.mk (below_then HBd.out HBd.out.size hb)
  have H3 := Aside0.mk (HTd.out.below hb)
  clear hb
  refine ⟨_, rfl, ?_⟩
  refine hK.out _ _ ((blk_cell H3.out.t 1).trans rfl) (fun hHeld => ?_)
  clear hK K
  refine norm_ (a' := ?_) ?_ ?_
  rotate_left
  · show Act.put _ (some 12) _ = _
    simp only [Act.put, List.setIfInBounds_toArray, List.set_cons_zero, List.set_cons_succ, i64_w, i32_w]
    rfl
  refine one_ (i := 6) (N := (some 13)) #[true, true, true, true, true, true, true, false, true] rfl rfl (by kernel_rfl) (by decide) (fun K hK => ?_)
  refine step_run (v := (asc m (sumL p)).getD (.slice none 0 0)) (w1 := w3) rfl (run_lookOp (.tmp 10) (.tmp 12) 58 rfl Try.underlying58 key64 rfl H3.out.mp (sumL p) rfl (.slice none 0 0) (Try.zeroValue22 _)) ?_
  refine hK.out _ _ ((blk_cell H3.out.t 1).trans rfl) (fun hHeld => ?_)
  clear hK K
  generalize hz : (asc m (sumL p)).getD (.slice none 0 0) = vz
  obtain ⟨Az, nz, cz, rfl⟩ := slice_of H3.out hz
  have Hz := Aside0.mk hz
  clear hz
  refine norm_ (a' := ?_) ?_ ?_
  rotate_left
  · show Act.put _ (some 13) _ = _
    simp only [Act.put, List.setIfInBounds_toArray, List.set_cons_zero, List.set_cons_succ, i64_w, i32_w]
    rfl
  refine pure_ (i := 7) (N := (some 14)) (v := ?_) (a' := ?_) #[true, true, true, true, true, true, true, true, true] rfl rfl (by kernel_rfl) (fun _ _ _ h => h) (Or.inl ⟨by rfl, ?_⟩) ?_ ?_
  rotate_left
  · intro w'
    go_simp
    with_reducible rfl
  rotate_left
  · simp only [Act.put, List.setIfInBounds_toArray, List.set_cons_zero, List.set_cons_succ, i64_w, i32_w]
    rfl
  refine done_ (by kernel_rfl) ?_
  have hz := Hz.out
  clear Hz
  cases ha : asc m (sumL p) with
  | none =>
    rw [ha] at hz
    cases hz
    have Hmiss : Aside0 (atR rows p = -1) := ⟨atR_miss (fun hm => H3.out.non _ ha p hm rfl)⟩
    clear ha
    go_wp2
    go_loopg [15] 1 (fun gq v15 w' => v15 = .int .i64 0 ∧ w' = w3)
    case atStart => exact ⟨rfl, rfl⟩
    case round =>
      obtain ⟨rfl, rfl⟩ := hrel
      go_wp2
      go_ret
      exact ⟨by rw [Hmiss.out]; rfl, HB3.out⟩
  | some vi =>
    rw [ha] at hz
    obtain rfl : vi = .slice Az nz cz := hz
    obtain ⟨js, ho, _, ⟨g, hg, hgf⟩, hi⟩ := H3.out.has _ _ ha
    obtain ⟨ci, he⟩ : ∃ ci, Value.slice Az nz cz = .slice (some ⟨g, 0, none⟩) js.length ci := by
      rcases ho.2 with ⟨h1, h2⟩ | ⟨g', cap, cur, h1, _⟩
      · rw [h1] at hg; simp [Value.ownBlock] at hg
      · rw [h1] at hg ⊢
        obtain rfl : g' = g := by simpa [Value.ownBlock] using hg
        exact ⟨cap, rfl⟩
    cases he
    have HI := Aside0.mk hi
    have HO := Aside0.mk ho
    have HF := Aside0.mk hgf
    have HJ : Aside0 (js.length ≤ 9223372036854775807) := ⟨own_max ho⟩
    clear ha hg ho hgf hi
    go_wp2
    go_loopg [15] js.length (fun gq v15 w' => ∃ j : Nat, v15 = .int .i64 (j : Int) ∧ Aside0 (j ≤ js.length ∧ js.length - j ≤ gq) ∧ Aside0 (∀ i ∈ js.take j, rows[i]? ≠ some p) ∧ Aside0 (Below w.heap.size w w') ∧ Aside0 (Below w3.heap.size w3 w'))
    case atStart => exact ⟨0, rfl, ⟨by omega, by omega⟩, ⟨by simp⟩, ⟨HB3.out⟩, ⟨Below.refl _ _⟩⟩
    case round =>
      obtain ⟨j, rfl, Hj, Hno, HBw, HB3w⟩ := hrel
      by_cases hlt : j < js.length
      · have e1 : (j < js.length) = True := eq_true hlt
        have HLT := Aside0.mk hlt
        have HTw := Aside0.mk (H3.out.below HB3w.out)
        have cj : wr.cell? ⟨g, j, none⟩ = some (.int .i64 ((js[j] : Nat) : Int)) := by
          have h1 := own_cell HO.out j (.int .i64 ((js[j] : Nat) : Int)) (by rw [List.getElem?_map, List.getElem?_eq_getElem hlt]; rfl)
          exact (HB3w.out.cell (H3.out.lt _ HF.out) ).trans h1
        obtain ⟨r, hr1, hr2⟩ := (HI.out js[j]).1 (List.getElem_mem hlt)
        have Hnx : Aside0 (r ≠ p → ∀ i ∈ js.take (j + 1), rows[i]? ≠ some p) := ⟨fun hne i hi => by
          rw [List.take_add_one, List.getElem?_eq_getElem hlt, List.mem_append] at hi
          rcases hi with hi | hi
          · exact Hno.out i hi
          · simp at hi
            subst hi
            rw [hr1]
            exact fun e => hne (Option.some.inj e)⟩
        generalize js[j] = i at cj hr1 Hnx
        have hil : i < rows.length := (List.getElem?_eq_some_iff.1 hr1).1
        obtain ⟨_, _, hC⟩ := Kd.N_reads' HTw.out.n
        obtain ⟨ad, A0, c0, eA, ci0, _, hC0⟩ := atRow hC (i : Int) (by omega) (by omega)
        have er : rdRow rows (i : Int) = r := by
          unfold rdRow
          rw [Int.toNat_natCast, List.getD_eq_getElem?_getD, hr1]
          rfl
        rw [er, Int.toNat_natCast] at ci0
        rw [er] at hC0
        subst eA
        have HC0 := Aside0.mk hC0
        have Hr1 := Aside0.mk hr1
        have Hrl : Aside0 (r.length ≤ 1000000000) := ⟨HTw.out.ok r (List.mem_of_getElem? hr1)⟩
        have cg := (blk_cell HTw.out.t 0).trans (show (#[Value.slice (some ad) rows.length cr, .map (some bm)] : Array Value)[0]? = some (.slice (some ad) rows.length cr) from rfl)
        have t1 := eq_true (show (0 : Int) ≤ (i : Int) by omega)
        have t2 := eq_true (show (i : Int) < (rows.length : Int) by omega)
        have t3 := eq_true (show (0 : Int) ≤ (j : Int) by omega)
        have t4 := eq_true (show (j : Int) < (js.length : Int) by omega)
        clear hlt hC hC0 hil hr1 hr2 er
        go_wp2_with (go_at_call 60; go_loud (refine (same_calls A0 c0 r A c p _ HC0.out (Kd.C_below HR.out HBw.out) Hrl.out).mono ?_; rintro e w4 ⟨rfl, hb4⟩; have HB4 := Aside0.mk hb4; have Hs := Aside0.mk (same_iff r p); clear hb4; generalize (r.length == p.length && (r.zip p).all fun z => eqP z.1 z.2) = bb at Hs ⊢; cases bb))
        · go_wp2
          go_roundg (js.length - (j + 1))
          case measure => have := Hj.out; have := HLT.out; omega
          case rel => exact ⟨j + 1, by have := HJ.out; have := HLT.out; rw [show wrap64 ((j : Int) + 1) = ((j + 1 : Nat) : Int) by unfold wrap64; omega], ⟨HLT.out, Nat.le_refl _⟩, ⟨Hnx.out (fun e => by have := Hs.out.2 e; cases this)⟩, ⟨below_then HBw.out HBw.out.size HB4.out⟩, ⟨below_then HB3w.out HB3w.out.size HB4.out⟩⟩
        · go_wp2
          go_ret
          obtain rfl : r = p := by simpa using Hs.out
          exact ⟨by rw [atR_hit HTw.out.nd Hr1.out]; rfl, below_then HBw.out HBw.out.size HB4.out⟩
      · have e1 : (j < js.length) = False := eq_false hlt
        have Hmiss : Aside0 (atR rows p = -1) := ⟨atR_miss (fun hm => by
          obtain ⟨i, hi, he⟩ := List.mem_iff_getElem.1 hm
          have hi2 : rows[i]? = some p := by rw [List.getElem?_eq_getElem hi, he]
          have hmem := (HI.out i).2 ⟨p, hi2, rfl⟩
          have h := Hno.out i
          rw [List.take_of_length_le (by omega)] at h
          exact h hmem hi2)⟩
        clear hlt
        go_wp2
        go_ret
        exact ⟨by rw [Hmiss.out]; rfl, HBw.out⟩
theorem find_calls (gt : Nat) (ft : Nat → Prop) (rows : List (List TPair)) (A : Option Addr) (c : Nat) (p : List TPair) (w : World) (h : Tab w gt ft rows) (hr : Kd.C k27 w A p.length p) (hc : p.length ≤ c) (hl : p.length ≤ 1000000000) (hn : rows.length ≤ 1000000000) :
    Calls Try.prog 49 #[.pointer (some ⟨gt, 0, none⟩), .slice A p.length c] w fun e w' => e = .returned (.int .i64 (atR rows p)) ∧ Below w.heap.size w w' := by
  obtain ⟨bm, vr, m, h⟩ := h
  exact findR gt bm ft rows vr m A c p w h hr hc hl hn
theorem TabR.own {w : World} {gt bm : Nat} {ft : Nat → Prop} {rows : List (List TPair)} {vr : Value} {m : List (Int × Value)} (h : TabR w gt bm ft rows vr m) {x : Int} {vz : Value} (hz : (asc m x).getD (.slice none 0 0) = vz) :
    ∃ js : List Nat, w.ownsRow 0 3 1 vz js.length (js.map fun (i : Nat) => Value.int .i64 (i : Int)) ∧ js.length ≤ rows.length ∧ (∀ k, vz.ownBlock = some k → ft k ∧ asc m x = some vz) ∧ ∀ i, i ∈ js ↔ ∃ r, rows[i]? = some r ∧ sumL r = x := by
  cases ha : asc m x with
  | none =>
    rw [ha] at hz
    obtain rfl : Value.slice none 0 0 = vz := hz
    refine ⟨[], World.ownsRow_nil _ _ _ _, Nat.zero_le _, fun k hk => by simp [Value.ownBlock] at hk, fun i => ⟨fun hi => by simp at hi, ?_⟩⟩
    rintro ⟨r, h1, h2⟩
    exact absurd h2 (h.non x ha r (List.mem_of_getElem? h1))
  | some u =>
    rw [ha] at hz
    obtain rfl : u = vz := hz
    obtain ⟨js, ho, hl, ⟨k, hk, hf⟩, hi⟩ := h.has _ _ ha
    exact ⟨js, ho, hl, fun q hq => by rw [hk] at hq; cases hq; exact ⟨hf, rfl⟩, hi⟩
theorem not_map {w : World} {bm : Nat} {m : List (Int × Value)} {n : Nat} {e : TypeId} {size : Nat} {v : Value} {xs : List Value} (hm : MapW w bm m) (h : w.ownsRow 0 e size v n xs) : some bm ≠ v.ownBlock := fun e => by
  obtain ⟨cs, hc⟩ := own_typed h bm e.symm
  obtain ⟨es, c, h2⟩ := hm.isMap
  rw [hc] at h2
  cases h2
/-- behind the map's change, ahead of the row's -/
structure Mid (w w5 : World) (gt bm : Nat) (ft : Nat → Prop) (rows : List (List TPair)) (r : List TPair) (vr : Value) (m2 : List (Int × Value)) : Prop where
  t : w5.heap[gt]? = some (.cells #[vr, .map (some bm)] 61 (0, 0))
  n : Kd.N kRow 24 w5 0 (okR gt bm ft m2) vr rows
  mp : MapW w5 bm m2
  has : ∀ h v, asc m2 h = some v → ∃ js : List Nat, w5.ownsRow 0 3 1 v js.length (js.map fun (i : Nat) => Value.int .i64 (i : Int)) ∧ js.length ≤ (rows ++ [r]).length ∧ (∃ k, v.ownBlock = some k ∧ (ft k ∨ w.heap.size ≤ k)) ∧ ∀ i, i ∈ js ↔ ∃ q, (rows ++ [r])[i]? = some q ∧ sumL q = h
  non : ∀ h, asc m2 h = none → ∀ q ∈ rows ++ [r], sumL q ≠ h
  inj : ∀ h h' v v', asc m2 h = some v → asc m2 h' = some v' → v.ownBlock = v'.ownBlock → h = h'
  fr : Fr ft w w5
theorem TabR.mid {w w4 w5 : World} {gt bm : Nat} {ft : Nat → Prop} {rows : List (List TPair)} {vr : Value} {m : List (Int × Value)} (h : TabR w gt bm ft rows vr m) (r : List TPair) {vz v1 : Value} (hz : (asc m (sumL r)).getD (.slice none 0 0) = vz) {js : List Nat}
    (hoz : w.ownsRow 0 3 1 vz js.length (js.map fun (i : Nat) => Value.int .i64 (i : Int)))
    (hjl : js.length ≤ rows.length) (hzk : ∀ k, vz.ownBlock = some k → ft k ∧ asc m (sumL r) = some vz) (hi : ∀ i, i ∈ js ↔ ∃ q, rows[i]? = some q ∧ sumL q = sumL r)
    (ho4 : w4.ownsRow 0 3 1 v1 (js.length + 1) ((js.map fun (i : Nat) => Value.int .i64 (i : Int)) ++ [.int .i64 (rows.length : Int)])) (hg4 : w.grownBy w4 vz.ownBlock) (hat : v1.ownBlock = vz.ownBlock ∨ ∃ b, v1.ownBlock = some b ∧ w.heap.size ≤ b)
    (hm5 : MapW w5 bm (putM m (sumL r) v1)) (hg5 : w4.grownBy w5 (some bm)) : Mid w w5 gt bm ft rows r vr (putM m (sumL r) v1) := by
  have hgz : some gt ≠ vz.ownBlock := own_ne hoz h.t (by decide)
  have hbz : some bm ≠ vz.ownBlock := not_map h.mp hoz
  have t4 := (hg4.block _ (blk_lt h.t) hgz).trans h.t
  have mp4 : MapW w4 bm m := h.mp.grown hg4 hbz
  have hg1 : some gt ≠ v1.ownBlock := own_ne ho4 t4 (by decide)
  have hb1 : some bm ≠ v1.ownBlock := not_map mp4 ho4
  have hgb : gt ≠ bm := fun e => by
    obtain ⟨es, c, h2⟩ := h.mp.isMap
    have := h.t
    rw [e, h2] at this
    cases this
  obtain ⟨k1, hk1⟩ : ∃ k, v1.ownBlock = some k := by
    rcases ho4.2 with ⟨_, h2⟩ | ⟨g, cap, cur, h2, _⟩
    · omega
    · exact ⟨g, by rw [h2]; rfl⟩
  have hft1 : ft k1 ∨ w.heap.size ≤ k1 := by
    rcases hat with e | ⟨b, e, hb⟩
    · exact .inl (hzk k1 (e.symm.trans hk1)).1
    · rw [hk1] at e; cases e; exact .inr hb
  have apart : ∀ x v, asc m x = some v → x ≠ sumL r → v.ownBlock ≠ v1.ownBlock ∧ v.ownBlock ≠ vz.ownBlock := by
    intro x v hv hne
    obtain ⟨_, _, _, ⟨k, hk, hf⟩, _⟩ := h.has x v hv
    have hvz : v.ownBlock ≠ vz.ownBlock := fun e => hne (h.inj x _ v vz hv (hzk k (e.symm.trans hk)).2 e)
    refine ⟨fun e => ?_, hvz⟩
    rcases hat with e2 | ⟨b, e2, hb⟩
    · exact hvz (e.trans e2)
    · have := h.lt k hf
      rw [hk, e2] at e
      cases e
      omega
  have hokz : ∀ k, okR gt bm ft m k → some k ≠ vz.ownBlock := fun k hk e => hk.2.2.2 _ _ (hzk k e.symm).2 e
  refine ⟨(hg5.block _ (blk_lt t4) (nes hgb)).trans t4, ?_, hm5, ?_, ?_, ?_, ?_⟩
  · refine Kd.N_mono (Kd.N_grown (Kd.N_grown (Kd.N_bound h.n) hg4 (fun k hk => hokz k hk.1)) hg5 (fun k hk => nes hk.1.2.2.1)) ?_
    rintro k ⟨⟨a, b, c, d⟩, e⟩
    refine ⟨a, b, c, fun x v hv => ?_⟩
    rw [asc_putM] at hv
    split at hv
    · cases hv
      rcases hat with e2 | ⟨q, e2, hb⟩
      · rw [e2]; exact hokz k ⟨a, b, c, d⟩
      · rw [e2]; exact nes (by omega)
    · exact d x v hv
  · intro x v hv
    rw [asc_putM] at hv
    split at hv
    · rename_i hx
      subst hx
      cases hv
      refine ⟨js ++ [rows.length], ?_, by simp; omega, ⟨k1, hk1, hft1⟩, fun i => ?_⟩
      · rw [List.map_append, List.length_append]
        exact own_other ho4 hg5 (.inr (fun e => hb1 e.symm))
      · rw [List.mem_append, hi, List.mem_singleton]
        constructor
        · rintro (⟨q, h1, h2⟩ | rfl)
          · exact ⟨q, by rw [List.getElem?_append_left (List.getElem?_eq_some_iff.1 h1).1]; exact h1, h2⟩
          · exact ⟨r, by simp, rfl⟩
        · rintro ⟨q, h1, h2⟩
          rcases Nat.lt_or_ge i rows.length with hl | hl
          · rw [List.getElem?_append_left hl] at h1
            exact .inl ⟨q, h1, h2⟩
          · have := (List.getElem?_eq_some_iff.1 h1).1
            rw [List.length_append, List.length_singleton] at this
            exact .inr (by omega)
    · rename_i hx
      obtain ⟨js', ho', hl', ⟨k, hk, hf⟩, hi'⟩ := h.has x v hv
      have ha := apart x v hv hx
      have o4 := own_other ho' hg4 (.inr ha.2)
      refine ⟨js', own_other o4 hg5 (.inr (fun e => not_map mp4 o4 e.symm)), by simp; omega, ⟨k, hk, .inl hf⟩, fun i => ?_⟩
      rw [hi']
      constructor
      · rintro ⟨q, h1, h2⟩
        exact ⟨q, by rw [List.getElem?_append_left (List.getElem?_eq_some_iff.1 h1).1]; exact h1, h2⟩
      · rintro ⟨q, h1, h2⟩
        rcases Nat.lt_or_ge i rows.length with hl | hl
        · rw [List.getElem?_append_left hl] at h1
          exact ⟨q, h1, h2⟩
        · rw [List.getElem?_append_right hl] at h1
          have := (List.getElem?_eq_some_iff.1 h1).1
          rw [List.length_singleton] at this
          rw [show i - rows.length = 0 by omega] at h1
          simp at h1
          subst h1
          exact absurd h2.symm hx
  · intro x hx q hq e
    rw [asc_putM] at hx
    split at hx
    · cases hx
    · rename_i hne
      rw [List.mem_append, List.mem_singleton] at hq
      rcases hq with hq | rfl
      · exact h.non x hx q hq e
      · exact hne e.symm
  · intro x x' v v' hv hv' e
    rw [asc_putM] at hv hv'
    split at hv
    · rename_i hx
      split at hv'
      · rename_i hx'
        rw [hx, hx']
      · rename_i hx'
        cases hv
        exact absurd e.symm (apart x' v' hv' hx').1
    · rename_i hx
      split at hv'
      · rename_i hx'
        cases hv'
        exact absurd e (apart x v hv hx).1
      · exact h.inj x x' v v' hv hv' e
  · exact (((Fr.refl ft w).grown hg4 (fun k hk => .inl (hzk k hk).1)).grown hg5 (fun k hk => .inl (by cases hk; exact h.bin)))
def okN (gt bm : Nat) (ft : Nat → Prop) (n : Nat) (m : List (Int × Value)) (k : Nat) : Prop := (ft k ∨ n ≤ k) ∧ k ≠ gt ∧ k ≠ bm ∧ ∀ h v, asc m h = some v → some k ≠ v.ownBlock
theorem Mid.end_ {w0 w w5 w6 : World} {gt bm : Nat} {ft : Nat → Prop} {rows : List (List TPair)} {r : List TPair} {vr vr1 : Value} {m m2 : List (Int × Value)} (h0 : TabR w gt bm ft rows vr m) (hs : w0.heap.size ≤ w.heap.size) (h : Mid w w5 gt bm ft rows r vr m2) (hr : r ∉ rows) (hl : r.length ≤ 1000000000)
    (hn6 : Kd.N kRow 24 w6 0 (okN gt bm ft w0.heap.size m2) vr1 (rows ++ [r])) (hg6 : w5.grownBy w6 vr.ownBlock) :
    w6.heap[gt]? = some (.cells #[vr, .map (some bm)] 61 (0, 0)) ∧
    TabR (w6.setCell ⟨gt, 0, none⟩ vr1) gt bm (fun k => (ft k ∨ w0.heap.size ≤ k) ∧ k < w6.heap.size) (rows ++ [r]) vr1 m2 ∧ Fr ft w (w6.setCell ⟨gt, 0, none⟩ vr1) := by
  have hgv : some gt ≠ vr.ownBlock := Kd.N_ne h.n h.t (by decide)
  have hbv : some bm ≠ vr.ownBlock := fun e => by
    obtain ⟨cs, hc⟩ := Kd.N_typed h.n bm e.symm
    obtain ⟨es, c, h2⟩ := h.mp.isMap
    rw [hc] at h2
    cases h2
  have t6 := (hg6.block _ (blk_lt h.t) hgv).trans h.t
  have hgb : bm ≠ gt := fun e => by
    obtain ⟨es, c, h2⟩ := h.mp.isMap
    have := h.t
    rw [← e, h2] at this
    cases this
  have hs6 : (w6.setCell ⟨gt, 0, none⟩ vr1).heap.size = w6.heap.size := by simp [World.setCell]
  have hle : w.heap.size ≤ w6.heap.size := Nat.le_trans h.fr.kept.1 hg6.size
  refine ⟨t6, ⟨fun k hk => by rw [hs6]; exact hk.2, ⟨.inl h0.gin, blk_lt t6⟩, ⟨.inl h0.bin, Nat.lt_of_lt_of_le (h0.lt _ h0.bin) hle⟩, ?_, ?_, blk_put t6 0 _ rfl, ?_, ?_, ?_, h.non, h.inj⟩, ?_⟩
  · rw [List.nodup_append]
    exact ⟨h0.nd, by simp, fun a ha b hb => by rw [List.mem_singleton] at hb; subst hb; exact fun e => hr (e ▸ ha)⟩
  · intro q hq
    rw [List.mem_append, List.mem_singleton] at hq
    rcases hq with hq | rfl
    · exact h0.ok q hq
    · exact hl
  · exact Kd.N_mono (Kd.N_far (Kd.N_bound hn6) (fun k hk => hk.1.2.1) _) (fun k hk => ⟨⟨hk.1.1, hk.2⟩, hk.1.2⟩)
  · exact h.mp.move ((Below.heap_setCell _ _ _ _ hgb).trans (hg6.block _ h.mp.lt hbv))
  · intro x v hv
    obtain ⟨js, ho, hjl, ⟨k, hk, hf⟩, hi⟩ := h.has x v hv
    have hlt := own_lt ho k hk
    have hkv : some k ≠ vr.ownBlock := fun e => by
      obtain ⟨cs, hc⟩ := Kd.N_typed h.n k e.symm
      exact own_ne ho hc (by decide) hk.symm
    have hkg : k ≠ gt := fun e => own_ne ho h.t (by decide) (by rw [hk, e])
    refine ⟨js, own_move ho (fun q hq => ?_), hjl, ⟨k, hk, ?_, ?_⟩, hi⟩
    · rw [hk] at hq
      cases hq
      exact (Below.heap_setCell _ _ _ _ hkg).trans (hg6.block _ hlt hkv)
    · rcases hf with hf | hf
      · exact .inl hf
      · exact .inr (by omega)
    · exact Nat.lt_of_lt_of_le hlt hg6.size
  · exact (h.fr.grown hg6 (fun k hk => .inl (by
      have := (h.n.1 k hk).1
      exact this))).set (.inl h0.gin) _
end Go.Proofs.Ytmkpfamngedcmaa.P
