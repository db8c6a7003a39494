/- slices.Grow and Concat at rows of pairs; sets.Join. -/
import Derived.Test.YtmkpfamngedcmaaSPairs
import Derived.Test.YtmkpfamngedcmaaWZeros
set_option linter.unusedVariables false
set_option linter.unusedSimpArgs false
set_option linter.unnecessarySimpa false
namespace Go.Proofs.Ytmkpfamngedcmaa.P
open Go.RowKit Go.Sort Go.Shelf Go.Proofs.YtmkpfamngedcmaaW.PrintWords Go.Proofs.YtmkpfamngedcmaaW.PrintLast Go.Proofs.YtmkpfamngedcmaaW.PrintMore Go.Proofs.Ytmkpfamngedcmaa.M

theorem infoPairJ : (Try.prog.info? 27).map (fun i => (i.zero, i.size, i.bytes)) = some (some (.agg #[.int .i64 0, .int .i64 0]), 2, 16) := by kernel_rfl
set_option maxHeartbeats 2000000 in
set_option maxRecDepth 100000 in
theorem grow_pair_calls (n : Int) (w : World) (h0 : 0 ≤ n) (h1 : n ≤ 10000000000) :
    Calls Try.prog 62 #[.slice none 0 0, .int .i64 n] w fun e w' => ∃ v' : Value, e = .returned v' ∧ Kd.R k27 27 w' w.heap.size (fun _ => True) v' [] ∧ Below w.heap.size w w' := by
  have w0 : wrap64 (0 - 0) = 0 := by unfold wrap64; omega
  have w1 : wrap64 (n - 0) = n := by unfold wrap64; omega
  have w2 : wrap64 n = n := by unfold wrap64; omega
  have d0 : decide (n < 0) = false := decide_eq_false (by omega)
  by_cases hn : n > 0
  · have d1 : decide (n > 0) = true := decide_eq_true hn
    have HN := Aside0.mk (And.intro h0 h1)
    clear hn h0 h1
    go_enter Try.func62, Try.ntmps62
    go_wp2_with (at_builtin; go_loud (refine Kd.R_append_zeros k27 (w0 := w) w.heap.size rfl (.tmp 20) (.tmp 21) 24 3 27 (.agg #[.int .i64 0, .int .i64 0]) 16 rfl Try.underlying24 Try.underlying3 infoPairJ rfl (by decide) (by omega) _ [] (⟨0, 0⟩ : TPair) (wrap64 n) (fun _ => True) rfl rfl ?qz (fun _ _ => trivial) (Kd.R_nil _ _ _ _ _) (by rw [w2]; exact HN.out.1) (Below.refl _ _) (Nat.le_refl _) ?ql ?_))
    case qz => exact k27_mkM _ _ _ _
    case ql => have := HN.out; rw [w2]; simp; omega
    intro v1 w9 hr1 hb1 hg1 hat1
    obtain ⟨A, c, e⟩ := Kd.R_slice hr1
    have hr2 := Kd.R_take (m := 0) (e ▸ hr1) (Nat.zero_le _)
    subst e
    have HR := Aside0.mk hr2
    have HB := Aside0.mk hb1
    clear hr1 hb1 hg1 hat1 hr2
    go_wp2
    go_ret
    exact ⟨_, rfl, HR.out, HB.out⟩
  · have d1 : decide (n > 0) = false := decide_eq_false hn
    clear hn h0 h1
    go_enter Try.func62, Try.ntmps62
    go_wp2
    go_ret
    exact ⟨_, rfl, Kd.R_nil _ _ _ _ _, Below.refl _ _⟩

set_option maxHeartbeats 4000000 in
set_option maxRecDepth 100000 in
theorem concat_pair_calls (a b : List TPair) (A B : Option Addr) (ca cb g : Nat) (w : World) (ha : Kd.C k27 w A a.length a) (hb : Kd.C k27 w B b.length b) (hla : a.length ≤ 1000000000) (hlb : b.length ≤ 1000000000) (hg : w.heap[g]? = some (.cells #[.slice A a.length ca, .slice B b.length cb] 24 (0, 0))) :
    Calls Try.prog 54 #[.slice (some ⟨g, 0, none⟩) 2 2] w fun e w' => ∃ v' : Value, e = .returned v' ∧ Kd.R k27 27 w' w.heap.size (fun _ => True) v' (a ++ b) ∧ Below w.heap.size w w' := by
  have HA := Aside0.mk ha
  have HB := Aside0.mk hb
  have HL := Aside0.mk (And.intro hla hlb)
  have HG := Aside0.mk hg
  clear ha hb hla hlb hg
  have w1 : wrap64 (a.length : Int) = (a.length : Int) := by have := HL.out; unfold wrap64; omega
  have w2 : wrap64 ((a.length : Int) + (b.length : Int)) = (a.length : Int) + (b.length : Int) := by have := HL.out; unfold wrap64; omega
  have n1 : decide ((a.length : Int) < 0) = false := decide_eq_false (by omega)
  have n2 : decide ((a.length : Int) + (b.length : Int) < 0) = false := decide_eq_false (by omega)
  go_enter Try.func54, Try.ntmps54
  go_wp2
  go_loopg [3, 5, 11] 3 (fun gq v3 v5 v11 w' => ∃ (i : Nat), v11 = .int .i64 (i : Int) ∧ Aside0 (i ≤ 2 ∧ 2 ≤ gq + i) ∧ v3 = .int .i64 (((if 1 ≤ i then a.length else 0 : Nat) + (if 2 ≤ i then b.length else 0 : Nat) : Nat) : Int) ∧ w' = w)
  case atStart => exact ⟨0, rfl, ⟨by omega, by omega⟩, by simp, rfl⟩
  case round =>
    obtain ⟨i, rfl, Hi, rfl, rfl⟩ := hrel
    obtain ⟨w, rfl⟩ : ∃ w : World, w = wr := ⟨_, rfl⟩
    have k0 : w.cell? ⟨g, 0, none⟩ = some (.slice A a.length ca) := (blk_cell HG.out 0).trans rfl
    have k1 : w.cell? ⟨g, 1, none⟩ = some (.slice B b.length cb) := (blk_cell HG.out 1).trans rfl
    have hc : i = 0 ∨ i = 1 ∨ i = 2 := by have := Hi.out; omega
    rcases hc with rfl | rfl | rfl
    · go_wp2
      go_roundg 1
      case measure => have := Hi.out; omega
      case rel => exact ⟨1, by simp, ⟨by omega, by omega⟩, by simp, rfl⟩
    · go_wp2
      go_roundg 0
      case measure => have := Hi.out; omega
      case rel => exact ⟨2, by simp, ⟨by omega, by omega⟩, by simp, rfl⟩
    · go_wp2_with (go_at_call 62; go_loud (refine (grow_pair_calls ((a.length : Int) + (b.length : Int)) _ (by omega) (by have := HL.out; omega)).mono ?_; rintro e w' ⟨v', rfl, hr, hbw⟩; have HR := Aside0.mk hr; have HBW := Aside0.mk hbw; clear hr hbw))
      have HG1 := Aside0.mk (blk_grown HG.out (⟨HBW.out.os, HBW.out.tape, HBW.out.output, HBW.out.size, fun k hk _ => HBW.out.block k hk⟩ : w.grownBy w' none) nen)
      have hsz := HBW.out.size
      have HS := Aside0.mk hsz
      have HA1 := Aside0.mk (Kd.C_below HA.out HBW.out)
      have HB1 := Aside0.mk (Kd.C_below HB.out HBW.out)
      obtain ⟨wo, rfl⟩ : ∃ wo : World, wo = w' := ⟨_, rfl⟩
      clear k0 k1 hsz
      go_loopg [6, 8, 27] 3 (fun gq v6 v8 v27 w' => ∃ (i : Nat), v27 = .int .i64 (i : Int) ∧ Aside0 (i ≤ 2 ∧ 2 ≤ gq + i) ∧ Aside0 (Kd.R k27 27 w' w.heap.size (fun _ => True) v6 ((if 1 ≤ i then a else []) ++ (if 2 ≤ i then b else []))) ∧ Aside0 (Below w.heap.size w w') ∧ Aside0 (g < w.heap.size))
      case atStart => exact ⟨0, rfl, ⟨by omega, by omega⟩, by simpa using HR, HBW, ⟨blk_lt HG.out⟩⟩
      case round =>
        obtain ⟨i, rfl, Hi, HR1, HBx, Hgl⟩ := hrel
        have HGx := Aside0.mk ((HBx.out.block g Hgl.out).trans HG.out)
        have k0 : wr.cell? ⟨g, 0, none⟩ = some (.slice A a.length ca) := (blk_cell HGx.out 0).trans rfl
        have k1 : wr.cell? ⟨g, 1, none⟩ = some (.slice B b.length cb) := (blk_cell HGx.out 1).trans rfl
        have hc : i = 0 ∨ i = 1 ∨ i = 2 := by have := Hi.out; omega
        rcases hc with rfl | rfl | rfl
        · have hR0 := Aside0.mk (show Kd.R k27 27 wr w.heap.size (fun _ => True) u6 [] by simpa using HR1.out)
          go_wp2_with (at_builtin; go_loud (refine Kd.R_append_rows k27 (w0 := w) w.heap.size rfl (.tmp 31) (.tmp 32) 24 27 (.agg #[.int .i64 0, .int .i64 0]) 16 rfl Try.underlying24 infoPairJ rfl (by decide) (by omega) u6 [] a A a.length ca (fun _ => True) (fun _ => False) rfl rfl hR0.out (Kd.C_below HA.out HBx.out) (fun _ _ h => h) (fun _ h => h.elim) (fun _ _ => trivial) HBx.out HBx.out.size ?ql1 ?_))
          case ql1 => have := HL.out; simp; omega
          intro v1 w1 hr1 hb1 hg1 hat1
          go_wp2
          go_roundg 1
          case measure => have := Hi.out; omega
          case rel => exact ⟨1, by simp, ⟨by omega, by omega⟩, ⟨by have h : Kd.R k27 27 w1 w.heap.size (fun _ => True) v1 ([] ++ a) := hr1; simpa using h⟩, ⟨hb1⟩, Hgl⟩
        · have hR0 := Aside0.mk (show Kd.R k27 27 wr w.heap.size (fun _ => True) u6 a by simpa using HR1.out)
          go_wp2_with (at_builtin; go_loud (refine Kd.R_append_rows k27 (w0 := w) w.heap.size rfl (.tmp 31) (.tmp 32) 24 27 (.agg #[.int .i64 0, .int .i64 0]) 16 rfl Try.underlying24 infoPairJ rfl (by decide) (by omega) u6 a b B b.length cb (fun _ => True) (fun _ => False) rfl rfl hR0.out (Kd.C_below HB.out HBx.out) (fun _ _ h => h) (fun _ h => h.elim) (fun _ _ => trivial) HBx.out HBx.out.size ?ql2 ?_))
          case ql2 => have := HL.out; omega
          intro v1 w1 hr1 hb1 hg1 hat1
          go_wp2
          go_roundg 0
          case measure => have := Hi.out; omega
          case rel => exact ⟨2, by simp, ⟨by omega, by omega⟩, ⟨by have h : Kd.R k27 27 w1 w.heap.size (fun _ => True) v1 (a ++ b) := hr1; simpa using h⟩, ⟨hb1⟩, Hgl⟩
        · go_wp2
          go_ret
          exact ⟨_, rfl, by simpa using HR1.out, HBx.out⟩

def sets_Join.f (l0 l1 : List TPair) : Option (List TPair) := if l0.length ≤ 400000000 ∧ l1.length ≤ 400000000 then some (onceC cmpPair (l0 ++ l1)) else none
set_option maxHeartbeats 4000000 in
set_option maxRecDepth 100000 in
theorem join_own (A0 : Option Addr) (c0 : Nat) (l0 : List TPair) (A1 : Option Addr) (c1 : Nat) (l1 : List TPair) (w : World) (hr0 : Kd.C k27 w A0 l0.length l0) (hr1 : Kd.C k27 w A1 l1.length l1) (h0 : l0.length ≤ 400000000) (h1 : l1.length ≤ 400000000) :
    Calls Try.prog 37 #[.slice A0 l0.length c0, .slice A1 l1.length c1] w fun e w' => ∃ v0_ : Value, e = .returned v0_ ∧ Kd.V k27 27 w' w.heap.size (fun k_ => w.heap.size ≤ k_) v0_ (onceC cmpPair (l0 ++ l1)) ∧ Below w.heap.size w w' := by
  have HR := Aside0.mk (And.intro hr0 hr1)
  have HL := Aside0.mk (And.intro h0 h1)
  have HP : Aside0 (sets_Pairs.f (l0 ++ l1) = some (onceC cmpPair (l0 ++ l1))) := ⟨if_pos (by rw [List.length_append]; omega)⟩
  obtain ⟨l2, hl2⟩ : ∃ l2, l2 = l0 ++ l1 := ⟨_, rfl⟩
  rw [← hl2] at HP ⊢
  have HLL := Aside0.mk hl2.symm
  clear hl2
  clear hr0 hr1 h0 h1
  go_enter Try.func37, Try.ntmps37
  go_wp2_with (first
    | (go_at_call 54; go_loud (refine (concat_pair_calls l0 l1 A0 A1 c0 c1 _ _ (Kd.C_below HR.out.1 (below_alloc (Below.refl _ _) _)) (Kd.C_below HR.out.2 (below_alloc (Below.refl _ _) _)) (by have := HL.out; omega) (by have := HL.out; omega) (blk_newAt _ rfl)).mono ?_; rintro e w1 ⟨v1, rfl, hr1, hb1⟩; rw [HLL.out] at hr1; obtain ⟨A2, c2, rfl⟩ := Kd.R_slice hr1; have HR1 := Aside0.mk hr1; have HB1 := Aside0.mk (below_then (below_alloc (Below.refl w.heap.size w) _) (by rw [size_alloc]; omega) hb1); clear hr1 hb1))
    | (go_at_call 16; go_loud (refine (sets_Pairs.calls A2 c2 l2 _ _ (Kd.R_reads' HR1.out).2.2 (Kd.R_reads' HR1.out).2.1 HP.out).mono ?_; rintro e w2 ⟨v2, rfl, hv2, hb2⟩; have HV2 := Aside0.mk hv2; have HB2 := Aside0.mk hb2; clear hv2 hb2)))
  go_ret
  exact ⟨_, rfl, Kd.V_lower (Kd.V_mono HV2.out (fun k hk => Nat.le_trans HB1.out.size hk)) HB1.out.size, below_then HB1.out HB1.out.size HB2.out⟩
theorem sets_Join.calls (A0 : Option Addr) (c0 : Nat) (l0 : List TPair) (A1 : Option Addr) (c1 : Nat) (l1 : List TPair) (r : List TPair) (w : World) (hr0 : Kd.C k27 w A0 l0.length l0) (hc0 : l0.length ≤ c0) (hr1 : Kd.C k27 w A1 l1.length l1) (hc1 : l1.length ≤ c1) (h : sets_Join.f l0 l1 = some r) :
    Calls Try.prog 37 #[.slice A0 l0.length c0, .slice A1 l1.length c1] w fun e w' => ∃ v0_ : Value, e = .returned v0_ ∧ Kd.V k27 27 w' w.heap.size (fun k_ => w.heap.size ≤ k_) v0_ r ∧ Below w.heap.size w w' := by
  unfold sets_Join.f at h
  split at h
  case isFalse => cases h
  rename_i hl
  obtain rfl := Option.some.inj h
  exact join_own A0 c0 l0 A1 c1 l1 w hr0 hr1 hl.1 hl.2
end Go.Proofs.Ytmkpfamngedcmaa.P
