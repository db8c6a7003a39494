/- sets.Table: Put. -/
import Derived.Test.YtmkpfamngedcmaaSTable
set_option linter.unusedVariables false
set_option linter.unusedSimpArgs false
set_option linter.unnecessarySimpa false
namespace Go.Proofs.Ytmkpfamngedcmaa.P
open Go.RowKit Go.Proofs.YtmkpfamngedcmaaW.PrintWords Go.Proofs.YtmkpfamngedcmaaW.PrintLast Go.Proofs.YtmkpfamngedcmaaW.PrintMore Go.Proofs.Ytmkpfamngedcmaa.M

theorem infoRow : (Try.prog.info? 24).map (fun i => (i.zero, i.size, i.bytes)) = some (some (.slice none 0 0), 1, 24) := by kernel_rfl
def putR (rows : List (List TPair)) (r : List TPair) : List (List TPair) := if r ∈ rows then rows else rows ++ [r]
def putI (rows : List (List TPair)) (r : List TPair) : Int := if r ∈ rows then (rows.idxOf r : Int) else rows.length
theorem F_row {W : World} {ok : Nat → Prop} {A : Option Addr} {c : Nat} {r : List TPair} (h : Kd.F k27 W ok A r.length r) (hc : r.length ≤ c) : Kd.FK kRow W ok r [.slice A r.length c] :=
  fun W' hW => ⟨A, c, rfl, hc, h W' hW⟩
set_option maxHeartbeats 8000000 in
set_option maxRecDepth 100000 in
theorem putA (gt : Nat) (ft : Nat → Prop) (rows : List (List TPair)) (A : Option Addr) (c : Nat) (p : List TPair) (r : List TPair) (hrp : onceC cmpPair p = r) (w : World) (h : Tab w gt ft rows) (hr : Kd.C k27 w A p.length p) (hc : p.length ≤ c) (hl : p.length ≤ 1000000000) (hn : rows.length ≤ 1000000000) (hm : r ∈ rows) :
    Calls Try.prog 26 #[.pointer (some ⟨gt, 0, none⟩), .slice A p.length c] w fun e w' => e = .returned (.tuple #[.int .i64 (rows.idxOf r : Int), .bool false]) ∧ Below w.heap.size w w' := by
  have HT := Aside0.mk h
  have HR := Aside0.mk hr
  have HL := Aside0.mk (And.intro hl (And.intro hc hn))
  have HP := Aside0.mk hrp
  have Hrl : Aside0 (r.length ≤ 1000000000) := ⟨by rw [← hrp]; exact Nat.le_trans (once_len totalPair p) hl⟩
  obtain ⟨q, hq⟩ : ∃ q : Nat, q = rows.idxOf r := ⟨_, rfl⟩
  have Hat : Aside0 (atR rows r = (q : Int)) := ⟨by unfold atR; rw [if_pos hm, hq]⟩
  rw [← hq]
  have t1 := eq_true (show (0 : Int) ≤ (q : Int) by omega)
  clear h hr hc hl hn hrp hm hq
  go_enter Try.func26, Try.ntmps26
  go_wp2_with (first
    | (go_at_call 16; go_loud (refine (sets_Pairs.calls A c p r _ HR.out HL.out.2.1 (by unfold sets_Pairs.f; rw [if_pos HL.out.1, HP.out])).mono ?_; rintro e w1 ⟨v1, rfl, hv1, hb1⟩; obtain ⟨Ap, cp, rfl⟩ := Kd.V_slice hv1; have HV1 := Aside0.mk hv1; have HB1 := Aside0.mk hb1; clear hv1 hb1))
    | (go_at_call 49; go_loud (refine (find_calls gt ft rows Ap cp r w1 (HT.out.below HB1.out) (Kd.V_reads' HV1.out).2.2 (Kd.V_reads' HV1.out).2.1 Hrl.out HL.out.2.2).mono ?_; rintro e w2 ⟨rfl, hb2⟩; have HB2 := Aside0.mk (below_then HB1.out HB1.out.size hb2); clear hb2; rw [Hat.out])))
  go_ret2
  exact ⟨rfl, HB2.out⟩
set_option maxHeartbeats 16000000 in
set_option maxRecDepth 100000 in
theorem putB (gt : Nat) (ft : Nat → Prop) (rows : List (List TPair)) (A : Option Addr) (c : Nat) (p : List TPair) (r : List TPair) (hrp : onceC cmpPair p = r) (w : World) (h : Tab w gt ft rows) (hr : Kd.C k27 w A p.length p) (hc : p.length ≤ c) (hl : p.length ≤ 1000000000) (hn : rows.length ≤ 1000000000) (hm : r ∉ rows) :
    Calls Try.prog 26 #[.pointer (some ⟨gt, 0, none⟩), .slice A p.length c] w fun e w' => e = .returned (.tuple #[.int .i64 (rows.length : Int), .bool true]) ∧ ∃ ft', Tab w' gt ft' (rows ++ [r]) ∧ (∀ k, ft k → ft' k) ∧ (∀ k, ft' k → ft k ∨ w.heap.size ≤ k) ∧ Fr ft w w' := by
  have HP := Aside0.mk hrp
  have Hrl : Aside0 (r.length ≤ 1000000000) := ⟨by rw [← hrp]; exact Nat.le_trans (once_len totalPair p) hl⟩
  have Hat : Aside0 (atR rows r = (-1 : Int)) := ⟨atR_miss hm⟩
  have HM := Aside0.mk hm
  obtain ⟨bm, vr, m, h⟩ := h
  obtain ⟨Ar, cr, rfl⟩ := Kd.N_slice h.n
  have HT := Aside0.mk h
  have HR := Aside0.mk hr
  have HL := Aside0.mk (And.intro hl (And.intro hc hn))
  clear h hr hc hl hn hrp hm
  go_enter Try.func26, Try.ntmps26
  go_wp2_with (first
    | (go_at_call 16; go_loud (refine (sets_Pairs.calls A c p r _ HR.out HL.out.2.1 (by unfold sets_Pairs.f; rw [if_pos HL.out.1, HP.out])).mono ?_; rintro e w1 ⟨v1, rfl, hv1, hb1⟩; obtain ⟨Ap, cp, rfl⟩ := Kd.V_slice hv1; have HV1 := Aside0.mk hv1; have HB1 := Aside0.mk hb1; clear hv1 hb1))
    | (go_at_call 49; go_loud (refine (findR gt bm ft rows _ m Ap cp r w1 (HT.out.below HB1.out) (Kd.V_reads' HV1.out).2.2 (Kd.V_reads' HV1.out).2.1 Hrl.out HL.out.2.2).mono ?_; rintro e w2 ⟨rfl, hb2⟩; have HB2 := Aside0.mk (below_then HB1.out HB1.out.size hb2); have HV2 := Aside0.mk (Kd.V_below HV1.out hb2); clear hb2; rw [Hat.out]))
    | (go_at_call 50; go_loud (refine (sum_calls Ap cp r w2 (Kd.V_reads' HV2.out).2.2 (Kd.V_reads' HV2.out).2.1 Hrl.out).mono ?_; rintro e w3 ⟨rfl, hb3⟩; have HB3 := Aside0.mk (below_then HB2.out HB2.out.size hb3); have HV3 := Aside0.mk (Kd.V_below HV2.out hb3); clear hb3)))
  have HT3 := Aside0.mk (HT.out.below HB3.out)
  refine start_ (n := 19) (S := fun w' => w'.cell? ⟨gt, 1, none⟩ = some (.map (some bm)) ∧ w'.cell? ⟨gt, 0, none⟩ = some (.slice Ar rows.length cr) ∧ MapW w' bm m) (ds := [18]) #[false, false, false, false, false, false, false, false, false, false, false, false, false, false, false, false, false, false, false] (by kernel_rfl) rfl rfl ⟨(blk_cell HT3.out.t 1).trans rfl, (blk_cell HT3.out.t 0).trans rfl, HT3.out.mp⟩ (fun hHeld => ?_)
  have HTd := Aside0.mk (HT3.out.below (below_drew (Below.refl _ _)))
  have HBd : Aside0 (Below w.heap.size w w3.drew) := ⟨below_drew HB3.out⟩
  have HVd := Aside0.mk (Kd.V_drew HV3.out)
  generalize w3.drew = wd at HTd HBd HVd hHeld ⊢
  clear HT3 HB3 HV3 HB2 HV2 HB1 HV1
  refine pure_ (i := 0) (N := (some 19)) (v := ?_) (a' := ?_) #[true, false, false, false, false, false, false, false, false, false, false, false, false, false, false, false, false, false, false] rfl rfl (by kernel_rfl) (fun _ _ _ h => h) (Or.inl ⟨by rfl, ?_⟩) ?_ ?_
  rotate_left
  · intro w'
    go_simp
    with_reducible rfl
  rotate_left
  · simp only [Act.put, List.setIfInBounds_toArray, List.set_cons_zero, List.set_cons_succ, i64_w, i32_w]
    rfl
  refine pure_ (i := 1) (N := (some 20)) (v := ?_) (a' := ?_) #[true, true, false, false, false, false, false, false, false, false, false, false, false, false, false, false, false, false, false] rfl rfl (by kernel_rfl) (fun _ _ _ h => h) (Or.inl ⟨by rfl, ?_⟩) ?_ ?_
  rotate_left
  · intro w'
    go_simp
    with_reducible rfl
  rotate_left
  · simp only [Act.put, List.setIfInBounds_toArray, List.set_cons_zero, List.set_cons_succ, i64_w, i32_w]
    rfl
  refine pure_ (i := 2) (N := (some 21)) (v := ?_) (a' := ?_) #[true, true, true, false, false, false, false, false, false, false, false, false, false, false, false, false, false, false, false] rfl rfl (by kernel_rfl) (fun _ _ _ h => h) (Or.inl ⟨by rfl, ?_⟩) ?_ ?_
  rotate_left
  · intro w'
    go_simp
    with_reducible rfl
  rotate_left
  · simp only [Act.put, List.setIfInBounds_toArray, List.set_cons_zero, List.set_cons_succ, i64_w, i32_w]
    rfl
  refine take_ (i := 3) (N := (some 22)) (v := ?_) (a' := ?_) #[true, true, true, true, false, false, false, false, false, false, false, false, false, false, false, false, false, false, false] rfl rfl (by kernel_rfl) (fun _ _ _ h => h) (Or.inl ⟨by rfl, ?_⟩) hHeld ?_ ?_
  rotate_left
  · intro w' hS_
    obtain ⟨s0, s1, s2⟩ := hS_
    clear s2
    go_simp
    with_reducible rfl
  rotate_left
  · simp only [Act.put, List.setIfInBounds_toArray, List.set_cons_zero, List.set_cons_succ, i64_w, i32_w]
    rfl
  refine pure_ (i := 4) (N := (some 23)) (v := ?_) (a' := ?_) #[true, true, true, true, true, false, false, false, false, false, false, false, false, false, false, false, false, false, false] rfl rfl (by kernel_rfl) (fun _ _ _ h => h) (Or.inl ⟨by rfl, ?_⟩) ?_ ?_
  rotate_left
  · intro w'
    go_simp
    with_reducible rfl
  rotate_left
  · simp only [Act.put, List.setIfInBounds_toArray, List.set_cons_zero, List.set_cons_succ, i64_w, i32_w]
    rfl
  refine pure_ (i := 5) (N := (some 24)) (v := ?_) (a' := ?_) #[true, true, true, true, true, true, false, false, false, false, false, false, false, false, false, false, false, false, false] rfl rfl (by kernel_rfl) (fun _ _ _ h => h) (Or.inl ⟨by rfl, ?_⟩) ?_ ?_
  rotate_left
  · intro w'
    go_simp
    with_reducible rfl
  rotate_left
  · simp only [Act.put, List.setIfInBounds_toArray, List.set_cons_zero, List.set_cons_succ, i64_w, i32_w]
    rfl
  refine pure_ (i := 6) (N := (some 25)) (v := ?_) (a' := ?_) #[true, true, true, true, true, true, true, false, false, false, false, false, false, false, false, false, false, false, false] rfl rfl (by kernel_rfl) (fun _ _ _ h => h) (Or.inl ⟨by rfl, ?_⟩) ?_ ?_
  rotate_left
  · intro w'
    go_simp
    with_reducible rfl
  rotate_left
  · simp only [Act.put, List.setIfInBounds_toArray, List.set_cons_zero, List.set_cons_succ, i64_w, i32_w]
    rfl
  refine pure_ (i := 7) (N := (some 26)) (v := ?_) (a' := ?_) #[true, true, true, true, true, true, true, true, false, false, false, false, false, false, false, false, false, false, false] rfl rfl (by kernel_rfl) (fun _ _ _ h => h) (Or.inl ⟨by rfl, ?_⟩) ?_ ?_
  rotate_left
  · intro w'
    go_simp
    with_reducible rfl
  rotate_left
  · simp only [Act.put, List.setIfInBounds_toArray, List.set_cons_zero, List.set_cons_succ, i64_w, i32_w]
    rfl
  refine take_ (i := 8) (N := (some 27)) (v := ?_) (a' := ?_) #[true, true, true, true, true, true, true, true, true, false, false, false, false, false, false, false, false, false, false] rfl rfl (by kernel_rfl) (fun _ _ _ h => h) (Or.inl ⟨by rfl, ?_⟩) hHeld ?_ ?_
  rotate_left
  · intro w' hS_
    obtain ⟨s0, s1, s2⟩ := hS_
    clear s2
    go_simp
    with_reducible rfl
  rotate_left
  · simp only [Act.put, List.setIfInBounds_toArray, List.set_cons_zero, List.set_cons_succ, i64_w, i32_w]
    rfl
  refine pure_ (i := 9) (N := (some 28)) (v := ?_) (a' := ?_) #[true, true, true, true, true, true, true, true, true, true, false, false, false, false, false, false, false, false, false] rfl rfl (by kernel_rfl) (fun _ _ _ h => h) (Or.inl ⟨by rfl, ?_⟩) ?_ ?_
  rotate_left
  · intro w'
    go_simp
    with_reducible rfl
  rotate_left
  · simp only [Act.put, List.setIfInBounds_toArray, List.set_cons_zero, List.set_cons_succ, i64_w, i32_w]
    rfl
  refine take_ (i := 10) (N := (some 29)) (v := ?_) (a' := ?_) #[true, true, true, true, true, true, true, true, true, true, true, false, false, false, false, false, false, false, false] rfl rfl (by kernel_rfl) (fun _ _ _ h => h) (Or.inl ⟨by rfl, ?_⟩) hHeld ?_ ?_
  rotate_left
  · intro w' hS_
    refine run_lookOp (.tmp 27) (.tmp 28) 58 ?_ Try.underlying58 key64 ?_ hS_.2.2 (sumL r) ?_ (.slice none 0 0) ?_
    · rfl
    · rfl
    · rfl
    · exact Try.zeroValue22 _
  rotate_left
  · simp only [Act.put, List.setIfInBounds_toArray, List.set_cons_zero, List.set_cons_succ, i64_w, i32_w]
    rfl
  refine pure_ (i := 11) (N := (some 30)) (v := ?_) (a' := ?_) #[true, true, true, true, true, true, true, true, true, true, true, true, false, false, false, false, false, false, false] rfl rfl (by kernel_rfl) (fun _ _ _ h => h) (Or.inl ⟨by rfl, ?_⟩) ?_ ?_
  rotate_left
  · intro w'
    go_simp
    with_reducible rfl
  rotate_left
  · simp only [Act.put, List.setIfInBounds_toArray, List.set_cons_zero, List.set_cons_succ, i64_w, i32_w]
    rfl
  refine pure_ (i := 12) (N := (some 31)) (v := ?_) (a' := ?_) #[true, true, true, true, true, true, true, true, true, true, true, true, true, false, false, false, false, false, false] rfl rfl (by kernel_rfl) (fun _ _ _ h => h) (Or.inl ⟨by rfl, ?_⟩) ?_ ?_
  rotate_left
  · intro w'
    go_simp
    with_reducible rfl
  rotate_left
  · simp only [Act.put, List.setIfInBounds_toArray, List.set_cons_zero, List.set_cons_succ, i64_w, i32_w]
    rfl
  refine pure_ (i := 13) (N := (some 32)) (v := ?_) (a' := ?_) #[true, true, true, true, true, true, true, true, true, true, true, true, true, true, false, false, false, false, false] rfl rfl (by kernel_rfl) (fun _ _ _ h => h) (Or.inl ⟨by rfl, ?_⟩) ?_ ?_
  rotate_left
  · intro w'
    go_simp
    with_reducible rfl
  rotate_left
  · simp only [Act.put, List.setIfInBounds_toArray, List.set_cons_zero, List.set_cons_succ, i64_w, i32_w]
    rfl
  refine take_ (i := 14) (N := (some 33)) (v := ?_) (a' := ?_) #[true, true, true, true, true, true, true, true, true, true, true, true, true, true, true, false, false, false, false] rfl rfl (by kernel_rfl) (fun _ _ _ h => h) (Or.inl ⟨by rfl, ?_⟩) hHeld ?_ ?_
  rotate_left
  · intro w' hS_
    obtain ⟨s0, s1, s2⟩ := hS_
    clear s2
    go_simp
    with_reducible rfl
  rotate_left
  · simp only [Act.put, List.setIfInBounds_toArray, List.set_cons_zero, List.set_cons_succ, i64_w, i32_w]
    rfl
  refine pure_ (i := 15) (N := (some 34)) (v := ?_) (a' := ?_) #[true, true, true, true, true, true, true, true, true, true, true, true, true, true, true, true, false, false, false] rfl rfl (by kernel_rfl) (fun _ _ _ h => h) (Or.inl ⟨by rfl, ?_⟩) ?_ ?_
  rotate_left
  · intro w'
    go_simp
    with_reducible rfl
  rotate_left
  · simp only [Act.put, List.setIfInBounds_toArray, List.set_cons_zero, List.set_cons_succ, i64_w, i32_w]
    rfl
  generalize hz : (asc m (sumL r)).getD (.slice none 0 0) = vz
  obtain ⟨js, ho, hjl, hzk, hi⟩ := HTd.out.own hz
  obtain ⟨Az, cz, rfl⟩ := own_slice ho
  have Hz := Aside0.mk hz
  have HO := Aside0.mk ho
  have HJ := Aside0.mk (And.intro hjl (And.intro hzk hi))
  clear hz ho hjl hzk hi
  refine one_ (i := 16) (N := (some 35)) #[true, true, true, true, true, true, true, true, true, true, true, true, true, true, true, true, true, false, false] rfl rfl (by kernel_rfl) (by decide) (fun K hK => ?_)
  refine step_run (v := .slice (some ⟨wd.heap.size, 0, none⟩) 1 1) (w1 := wd.alloc (.cells #[.int .i64 (rows.length : Int)] 3)) rfl (by go_simp) ?_
  refine hK.out _ _ ⟨(blk_cell (blk_old HTd.out.t _) 1).trans rfl, (blk_cell (blk_old HTd.out.t _) 0).trans rfl, HTd.out.mp.alloc _⟩ (fun hHeld => ?_)
  clear hK K
  refine norm_ (a' := ?_) ?_ ?_
  rotate_left
  · show Act.put _ (some 35) _ = _
    simp only [Act.put, List.setIfInBounds_toArray, List.set_cons_zero, List.set_cons_succ, i64_w, i32_w]
    rfl
  refine one_ (i := 17) (N := (some 36)) #[true, true, true, true, true, true, true, true, true, true, true, true, true, true, true, true, true, true, false] rfl rfl (by kernel_rfl) (by decide) (fun K hK => ?_)
  refine step_append_cells (w0 := wd) 0 rfl (.tmp 29) (.tmp 35) 22 3 (.int .i64 0) 1 8 rfl Try.underlying22 infoInt rfl (by decide) (by decide) (.slice Az js.length cz) js.length (js.map fun (i : Nat) => Value.int .i64 (i : Int)) [.int .i64 (rows.length : Int)] rfl rfl rfl ?_ HO.out (Below.refl _ _) (Nat.zero_le _) ?_ ?_
  · intro u hu
    simp at hu
    rw [hu]
    rfl
  · have := HJ.out.1; have := HL.out.2.2; omega
  intro v1 w4 ho4 hb4 hg4 hat4
  have HGZ : Aside0 (some gt ≠ (Value.slice Az js.length cz).ownBlock) := ⟨own_ne HO.out HTd.out.t (by decide)⟩
  have HBZ : Aside0 (some bm ≠ (Value.slice Az js.length cz).ownBlock) := ⟨not_map HTd.out.mp HO.out⟩
  have HT4 := Aside0.mk ((hg4.block _ (blk_lt HTd.out.t) HGZ.out).trans HTd.out.t)
  have HM4 : Aside0 (MapW w4 bm m) := ⟨HTd.out.mp.grown hg4 HBZ.out⟩
  have HO4 := Aside0.mk ho4
  have HG4 := Aside0.mk hg4
  have HA4 := Aside0.mk hat4
  clear ho4 hb4 hg4 hat4 hHeld
  refine hK.out _ _ ⟨(blk_cell HT4.out 1).trans rfl, (blk_cell HT4.out 0).trans rfl, HM4.out⟩ (fun hHeld => ?_)
  clear hK K
  refine norm_ (a' := ?_) ?_ ?_
  rotate_left
  · show Act.put _ (some 36) _ = _
    simp only [Act.put, List.setIfInBounds_toArray, List.set_cons_zero, List.set_cons_succ, i64_w, i32_w]
    rfl
  refine last_ (i := 18) (N := none) #[true, true, true, true, true, true, true, true, true, true, true, true, true, true, true, true, true, true, true] rfl rfl (by kernel_rfl) (by decide) (fun K hK => ?_)
  refine step_update rfl (.tmp 22) (.tmp 23) (.tmp 36) 58 rfl _ _ Try.underlying58 key64 bm rfl HM4.out (sumL r) rfl v1 rfl ?_
  intro w5 hm5 hg5
  have HMid := Aside0.mk (HTd.out.mid r Hz.out HO.out HJ.out.1 HJ.out.2.1 HJ.out.2.2 HO4.out HG4.out HA4.out hm5 hg5)
  have HV5 : Aside0 (Kd.F k27 w5 (fun k => w.heap.size ≤ k ∧ k < wd.heap.size) Ap r.length r) := ⟨Kd.F_step (Kd.F_bound (Kd.V_F HVd.out)) (fun k hk hlt => HMid.out.fr.kept.2 k hlt (fun hf => by have := HT.out.lt k hf; have := hk.1; omega))⟩
  have HV5b : Aside0 (r.length ≤ cp) := ⟨(Kd.V_reads' HVd.out).2.1⟩
  have HE5 : Aside0 (∀ x v, asc (putM m (sumL r) v1) x = some v → ∀ k, v.ownBlock = some k → ft k ∨ wd.heap.size ≤ k) := ⟨fun x v hv k hk => by
    obtain ⟨_, _, _, ⟨k', hk', hf⟩, _⟩ := HMid.out.has x v hv
    rw [hk] at hk'
    cases hk'
    exact hf⟩
  generalize putM m (sumL r) v1 = m2 at HMid HE5
  clear hm5 hg5 HG4 HA4 HO4 HM4 HT4 HGZ HBZ Hz HO HJ
  refine hK.out _ _ ?_
  clear hK K
  refine done_ (by kernel_rfl) ?_
  have c5 := (blk_cell HMid.out.t 0).trans (show (#[Value.slice Ar rows.length cr, .map (some bm)] : Array Value)[0]? = some (.slice Ar rows.length cr) from rfl)
  go_wp2_with (at_builtin; go_loud (refine Kd.N_append kRow (w0 := w5) 0 rfl (.tmp 41) (.tmp 43) 59 24 (.slice none 0 0) 24 rfl Try.underlying59 infoRow rfl (by decide) (by decide) (.slice Ar rows.length cr) rows r [.slice Ap r.length cp] (okN gt bm ft w.heap.size m2) (fun k => w.heap.size ≤ k ∧ k < wd.heap.size) rfl rfl (F_row HV5.out HV5b.out) ?qa ?qb ?qc (Below.refl _ _) (Nat.zero_le _) ?qd ?_))
  case qa =>
    intro k hk
    refine ⟨⟨.inr hk.1, fun e => by have := HT.out.lt gt HT.out.gin; omega, fun e => by have := HT.out.lt bm HT.out.bin; omega, fun x v hv e => ?_⟩, fun e => ?_⟩
    · rcases HE5.out x v hv k e.symm with hf | hf
      · have := HT.out.lt k hf; omega
      · omega
    · have := HT.out.lt k (HT.out.n.1 k e.symm).1
      omega
  case qb =>
    intro k hk
    have hle : wd.heap.size ≤ w5.heap.size := HMid.out.fr.kept.1
    have := HBd.out.size
    refine ⟨.inr (by omega), fun e => by have := HT.out.lt gt HT.out.gin; omega, fun e => by have := HT.out.lt bm HT.out.bin; omega, fun x v hv e => ?_⟩
    obtain ⟨js, ho, _⟩ := HMid.out.has x v hv
    have := own_lt ho k e.symm
    omega
  case qc => exact Kd.N_mono HMid.out.n (fun k hk => ⟨.inl hk.1, hk.2⟩)
  case qd => have := HL.out.2.2; omega
  intro vr1 w6 hn6 hb6 hg6 hat6
  obtain ⟨H61, H62, H63⟩ := Mid.end_ (w0 := w) HTd.out HBd.out.size HMid.out HM.out Hrl.out hn6 hg6
  obtain ⟨A7, c7, he7⟩ := Kd.N_slice hn6
  rw [List.length_append, List.length_singleton] at he7
  subst he7
  have HT6 := Aside0.mk H61
  have HT7 := Aside0.mk H62
  have HF7 := Aside0.mk H63
  have HLE : Aside0 (wd.heap.size ≤ w6.heap.size) := ⟨Nat.le_trans HMid.out.fr.kept.1 hg6.size⟩
  have c8 := (blk_cell H61 0).trans (show (#[Value.slice Ar rows.length cr, .map (some bm)] : Array Value)[0]? = some (.slice Ar rows.length cr) from rfl)
  have f8 := blk_frozen H61 0
  have c9 := (blk_cell HT7.out.t 0).trans (show (#[Value.slice A7 (rows.length + 1) c7, .map (some bm)] : Array Value)[0]? = some (.slice A7 (rows.length + 1) c7) from rfl)
  clear H61 H62 H63 hn6 hb6 hg6 hat6 c5 HMid HV5 HE5
  go_wp2
  go_ret2
  refine ⟨?_, _, ⟨bm, _, _, HT7.out⟩, ?_, ?_, ?_⟩
  · have := HL.out.2.2
    rw [show wrap64 (rows.length : Int) = (rows.length : Int) by unfold wrap64; omega]
    rfl
  · intro k hk
    exact ⟨.inl hk, Nat.lt_of_lt_of_le (HT.out.lt k hk) (Nat.le_trans HBd.out.size HLE.out)⟩
  · rintro k ⟨hk, _⟩
    exact hk
  · exact (Fr.of_below HBd.out).then_ HF7.out (fun k hk => .inl hk)
theorem put_calls (gt : Nat) (ft : Nat → Prop) (rows : List (List TPair)) (A : Option Addr) (c : Nat) (p : List TPair) (w : World) (h : Tab w gt ft rows) (hr : Kd.C k27 w A p.length p) (hc : p.length ≤ c) (hl : p.length ≤ 1000000000) (hn : rows.length ≤ 1000000000) :
    Calls Try.prog 26 #[.pointer (some ⟨gt, 0, none⟩), .slice A p.length c] w fun e w' => e = .returned (.tuple #[.int .i64 (putI rows (onceC cmpPair p)), .bool (decide (onceC cmpPair p ∉ rows))]) ∧ ∃ ft', Tab w' gt ft' (putR rows (onceC cmpPair p)) ∧ (∀ k, ft k → ft' k) ∧ (∀ k, ft' k → ft k ∨ w.heap.size ≤ k) ∧ Fr ft w w' := by
  by_cases hm : onceC cmpPair p ∈ rows
  · refine (putA gt ft rows A c p _ rfl w h hr hc hl hn hm).mono ?_
    rintro e w' ⟨rfl, hb⟩
    unfold putI putR
    rw [if_pos hm, if_pos hm]
    exact ⟨by simp [hm], ft, h.below hb, fun _ hk => hk, fun _ hk => .inl hk, Fr.of_below hb⟩
  · refine (putB gt ft rows A c p _ rfl w h hr hc hl hn hm).mono ?_
    rintro e w' ⟨rfl, hb⟩
    unfold putI putR
    rw [if_neg hm, if_neg hm]
    exact ⟨by simp [hm], hb⟩
end Go.Proofs.Ytmkpfamngedcmaa.P
