/- canopyref2.Table: New, Find, Put, Row, Len. -/
import Derived.Test.YtmkpfamngedcmaaSTabs
import Derived.Test.YtmkpfamngedcmaaUPairsN
set_option linter.unusedVariables false
set_option linter.unusedSimpArgs false
set_option linter.unnecessarySimpa false
namespace Go.Proofs.Ytmkpfamngedcmaa.P
open Go.RowKit Go.Proofs.YtmkpfamngedcmaaW.PrintWords Go.Proofs.YtmkpfamngedcmaaW.PrintLast Go.Proofs.YtmkpfamngedcmaaW.PrintMore Go.Proofs.Ytmkpfamngedcmaa.M Go.Proofs.Ytmkpfamngedcmaa.Pure

theorem infoPairT : (Try.prog.info? 27).map (fun i => (i.zero, i.size, i.bytes)) = some (some (.agg #[.int .i64 0, .int .i64 0]), 2, 16) := by kernel_rfl
/-- the reference's table at block gt, with these rows; the blocks that it takes -/
structure RTabR (w : World) (gt : Nat) (ft : Nat → Prop) (rows : List (List TPair)) (vr : Value) : Prop where
  lt : ∀ k, ft k → k < w.heap.size
  gin : ft gt
  ok : ∀ r ∈ rows, r.length ≤ 1000000000
  t : w.heap[gt]? = some (.cells #[vr] 65 (0, 0))
  n : Kd.N kRow 24 w 0 (fun k => ft k ∧ k ≠ gt) vr rows
def RTab (w : World) (gt : Nat) (ft : Nat → Prop) (rows : List (List TPair)) : Prop := ∃ vr, RTabR w gt ft rows vr
theorem RTabR.step {w w1 : World} {gt : Nat} {ft : Nat → Prop} {rows : List (List TPair)} {vr : Value} (h : RTabR w gt ft rows vr) (hs : w.heap.size ≤ w1.heap.size) (hm : ∀ k, ft k → w1.heap[k]? = w.heap[k]?) : RTabR w1 gt ft rows vr :=
  ⟨fun k hk => Nat.lt_of_lt_of_le (h.lt k hk) hs, h.gin, h.ok, (hm _ h.gin).trans h.t, Kd.N_step h.n (fun k hk _ => hm k hk.1)⟩
theorem RTabR.below {w w1 : World} {gt : Nat} {ft : Nat → Prop} {rows : List (List TPair)} {vr : Value} (h : RTabR w gt ft rows vr) (b : Below w.heap.size w w1) : RTabR w1 gt ft rows vr := h.step b.size (fun k hk => b.block k (h.lt k hk))
theorem RTab.below {w w1 : World} {gt : Nat} {ft : Nat → Prop} {rows : List (List TPair)} (h : RTab w gt ft rows) (b : Below w.heap.size w w1) : RTab w1 gt ft rows := by
  obtain ⟨vr, h⟩ := h
  exact ⟨vr, h.below b⟩
theorem RTab.apart {S : Nat → Prop} {w w1 : World} {gt : Nat} {ft : Nat → Prop} {rows : List (List TPair)} (h : RTab w gt ft rows) (b : Fr S w w1) (hs : ∀ k, ft k → ¬ S k) : RTab w1 gt ft rows := by
  obtain ⟨vr, h⟩ := h
  exact ⟨vr, h.step b.kept.1 (fun k hk => b.kept.2 k (h.lt k hk) (hs k hk))⟩
theorem RTab.lt_ {w : World} {gt : Nat} {ft : Nat → Prop} {rows : List (List TPair)} (h : RTab w gt ft rows) : ∀ k, ft k → k < w.heap.size := by
  obtain ⟨_, h⟩ := h
  exact h.lt
set_option maxHeartbeats 4000000 in
set_option maxRecDepth 100000 in
theorem rnew_calls (w : World) :
    Calls Try.prog 29 #[] w fun e w' => ∃ gt ft, e = .returned (.pointer (some ⟨gt, 0, none⟩)) ∧ RTab w' gt ft [] ∧ (∀ k, ft k → w.heap.size ≤ k) ∧ Below w.heap.size w w' := by
  go_enter Try.func29, Try.ntmps29
  go_wp2
  go_ret
  refine ⟨w.heap.size, fun k => k = w.heap.size, rfl, ⟨.slice none 0 0, ⟨fun k hk => by rw [size_alloc]; omega, rfl, fun r hr => by simp at hr, blk_newAt _ rfl, Kd.N_nil _ _ _ _ _⟩⟩, fun k hk => by omega, below_alloc (Below.refl _ _) _⟩
set_option maxHeartbeats 4000000 in
set_option maxRecDepth 100000 in
theorem rlen_calls (gt : Nat) (ft : Nat → Prop) (rows : List (List TPair)) (w : World) (h : RTab w gt ft rows) :
    Calls Try.prog 32 #[.pointer (some ⟨gt, 0, none⟩)] w fun e w' => e = .returned (.int .i64 (rows.length : Int)) ∧ w' = w := by
  obtain ⟨vr, h⟩ := h
  obtain ⟨Ar, cr, rfl⟩ := Kd.N_slice h.n
  have c1 := (blk_cell h.t 0).trans (show (#[Value.slice Ar rows.length cr] : Array Value)[0]? = some (.slice Ar rows.length cr) from rfl)
  clear h
  go_enter Try.func32, Try.ntmps32
  go_wp2
  go_ret
  exact ⟨rfl, rfl⟩
theorem rdRow_at (rows : List (List TPair)) (i : Nat) (h : i < rows.length) : rdRow rows (i : Int) = rows[i] := by
  unfold rdRow
  rw [Int.toNat_natCast, List.getD_eq_getElem?_getD, List.getElem?_eq_getElem h]
  rfl
theorem idx_first {r : List TPair} : ∀ {rows : List (List TPair)} {i : Nat} (hi : i < rows.length) (he : rows[i] = r) (hb : ∀ j (h : j < rows.length), j < i → rows[j] ≠ r), r ∈ rows ∧ rows.idxOf r = i
  | [], i, hi, _, _ => by simp at hi
  | a :: l, 0, hi, he, hb => by
    have e : a = r := he
    subst e
    exact ⟨List.mem_cons_self, by simp⟩
  | a :: l, i + 1, hi, he, hb => by
    have hne : a ≠ r := hb 0 (by simp) (by omega)
    obtain ⟨h1, h2⟩ := @idx_first r l i (by simpa using hi) he (fun j h hj => hb (j + 1) (by simpa using h) (by omega))
    exact ⟨List.mem_cons_of_mem _ h1, by have h3 : (a == r) = false := beq_eq_false_iff_ne.2 hne; rw [List.idxOf_cons, h3, h2]; rfl⟩
set_option maxHeartbeats 8000000 in
set_option maxRecDepth 100000 in
theorem rfind_calls (gt : Nat) (ft : Nat → Prop) (rows : List (List TPair)) (A : Option Addr) (c : Nat) (p : List TPair) (w : World) (h : RTab w gt ft rows) (hr : Kd.C k27 w A p.length p) (hc : p.length ≤ c) (hl : p.length ≤ 1000000000) (hn : rows.length ≤ 1000000000) :
    Calls Try.prog 31 #[.pointer (some ⟨gt, 0, none⟩), .slice A p.length c] w fun e w' => e = .returned (.tuple #[.int .i64 (if onceC cmpPair p ∈ rows then (rows.idxOf (onceC cmpPair p) : Int) else 0), .bool (decide (onceC cmpPair p ∈ rows))]) ∧ Below w.heap.size w w' := by
  obtain ⟨vr, h⟩ := h
  obtain ⟨Ar, cr, rfl⟩ := Kd.N_slice h.n
  obtain ⟨kp, hkp⟩ := Ev.rounds (ev_Pairs p hl)
  have hrl : (onceC cmpPair p).length ≤ 1000000000 := Nat.le_trans (once_len totalPair p) hl
  generalize onceC cmpPair p = r at hkp hrl ⊢
  obtain ⟨iV, hiV⟩ : ∃ iV : Int, iV = if r ∈ rows then (rows.idxOf r : Int) else 0 := ⟨_, rfl⟩
  obtain ⟨bV, hbV⟩ : ∃ bV : Bool, bV = decide (r ∈ rows) := ⟨_, rfl⟩
  rw [← hiV, ← hbV]
  have HV := Aside0.mk (And.intro hiV hbV)
  clear hiV hbV
  have HT := Aside0.mk h
  have HR := Aside0.mk (And.intro hr hc)
  have HK := Aside0.mk hkp
  have HL := Aside0.mk (And.intro hrl hn)
  clear h hr hc hl hn hkp hrl
  go_enter Try.func31, Try.ntmps31
  go_wp2_with fail
  refine (canopyref2_Pairs.calls kp A c p r _ HR.out.1 HR.out.2 HK.out).mono ?_
  rintro e w1 ⟨v1, rfl, ho1, hb1⟩
  obtain ⟨A1, c1, rfl⟩ := Kd.R_slice ho1
  have HO1 := Aside0.mk ho1
  have HT1 := Aside0.mk (HT.out.below hb1)
  have HB1 := Aside0.mk hb1
  clear ho1 hb1
  go_wp2
  go_loopg [7] rows.length (fun gq v7 w' => ∃ i : Nat, v7 = .int .i64 (i : Int) ∧ Aside0 (i ≤ rows.length ∧ rows.length - i ≤ gq) ∧ Aside0 (∀ j (h : j < rows.length), j < i → rows[j] ≠ r) ∧ Aside0 (RTabR w' gt ft rows (.slice Ar rows.length cr)) ∧ Aside0 (Kd.R k27 27 w' w.heap.size (fun _ => True) (.slice A1 r.length c1) r) ∧ Aside0 (Below w.heap.size w w'))
  case atStart => exact ⟨0, rfl, ⟨by omega, by omega⟩, ⟨fun j h hj => by omega⟩, HT1, HO1, HB1⟩
  case round =>
    clear HT1 HO1 HB1
    obtain ⟨i, rfl, Hi, Hx, HT1, HO1, HB1⟩ := hrel
    obtain ⟨wo, rfl⟩ : ∃ wo : World, wo = wr := ⟨_, rfl⟩
    have k1 := (blk_cell HT1.out.t 0).trans (show (#[Value.slice Ar rows.length cr] : Array Value)[0]? = some (.slice Ar rows.length cr) from rfl)
    by_cases hlt : i < rows.length
    · obtain ⟨ad, A2, c2, eA, k2, hc2, hC2⟩ := atRow (Kd.N_reads' HT1.out.n).2.2 (i : Int) (by omega) (by omega)
      rw [rdRow_at rows i hlt] at k2 hc2 hC2
      rw [Int.toNat_natCast] at k2
      have hrl2 : rows[i].length ≤ 1000000000 := HT1.out.ok _ (List.getElem_mem hlt)
      obtain ⟨kc, hkc⟩ := Ev.rounds (ev_Same rows[i] r hrl2)
      have HKC := Aside0.mk hkc
      have HC2 := Aside0.mk (And.intro hC2 hc2)
      have HLT := Aside0.mk hlt
      have hhit := @idx_first r rows i hlt
      have HH := Aside0.mk hhit
      have hmiss : rows[i] ≠ r → ∀ j (h : j < rows.length), j < i + 1 → rows[j] ≠ r := fun hne j h hj => by
        by_cases e : j = i
        · subst e; exact hne
        · exact Hx.out j h (by omega)
      have HM := Aside0.mk hmiss
      have t1 := eq_true hlt
      have t2 := decide_eq_true hlt
      subst eA
      by_cases he : rows[i] = r
      · rw [decide_eq_true he] at HKC
        have HE := Aside0.mk (HH.out he Hx.out)
        generalize rows[i] = ri at k2 HC2 HKC
        clear hC2 hc2 hrl2 hkc hhit hmiss he HM HH hlt
        go_wp2_with fail
        refine (canopyref2_Same.calls kc A2 c2 ri A1 c1 r true _ HC2.out.1 HC2.out.2 (Kd.R_reads' HO1.out).2.2 (Kd.R_reads' HO1.out).2.1 HKC.out).mono ?_
        rintro e w2 ⟨rfl, hd2⟩
        have HB2 := Aside0.mk (below_then HB1.out HB1.out.size hd2.below)
        clear hd2
        go_wp2
        go_ret2
        refine ⟨?_, HB2.out⟩
        rw [HV.out.1, HV.out.2, if_pos HE.out.1, HE.out.2, decide_eq_true HE.out.1]
        rfl
      · rw [decide_eq_false he] at HKC
        have HE := Aside0.mk (HM.out he)
        generalize rows[i] = ri at k2 HC2 HKC
        clear hC2 hc2 hrl2 hkc hhit hmiss he HM HH hlt
        go_wp2_with fail
        refine (canopyref2_Same.calls kc A2 c2 ri A1 c1 r false _ HC2.out.1 HC2.out.2 (Kd.R_reads' HO1.out).2.2 (Kd.R_reads' HO1.out).2.1 HKC.out).mono ?_
        rintro e w2 ⟨rfl, hd2⟩
        have HT2 := Aside0.mk (HT1.out.below hd2.below)
        have HO2 := Aside0.mk (Kd.R_below HO1.out hd2.below)
        have HB2 := Aside0.mk (below_then HB1.out HB1.out.size hd2.below)
        clear hd2
        go_wp2
        go_roundg (rows.length - (i + 1))
        case measure => have := Hi.out; have := HLT.out; omega
        case rel => exact ⟨i + 1, by rw [show wrap64 ((i : Int) + 1) = ((i + 1 : Nat) : Int) by have := HLT.out; have := HL.out; unfold wrap64; omega], ⟨HLT.out, Nat.le_refl _⟩, HE, HT2, HO2, HB2⟩
    · have hnot : r ∉ rows := fun hm => by
        obtain ⟨j, hj, e⟩ := List.mem_iff_getElem.1 hm
        exact Hx.out j hj (by omega) e
      have HN := Aside0.mk hnot
      have t1 := eq_false hlt
      have t2 := decide_eq_false hlt
      clear hnot hlt
      go_wp2
      go_ret2
      refine ⟨?_, HB1.out⟩
      rw [HV.out.1, HV.out.2, if_neg HN.out, decide_eq_false HN.out]
      rfl
set_option maxHeartbeats 8000000 in
set_option maxRecDepth 100000 in
theorem rrow_calls (gt : Nat) (ft : Nat → Prop) (rows : List (List TPair)) (i : Int) (w : World) (h : RTab w gt ft rows) :
    Calls Try.prog 34 #[.pointer (some ⟨gt, 0, none⟩), .int .i64 i] w fun e w' => ∃ v, e = .returned v ∧ Kd.R k27 27 w' w.heap.size (fun _ => True) v (rowR rows i) ∧ Below w.heap.size w w' := by
  obtain ⟨vr, h⟩ := h
  obtain ⟨Ar, cr, rfl⟩ := Kd.N_slice h.n
  have c1 := (blk_cell h.t 0).trans (show (#[Value.slice Ar rows.length cr] : Array Value)[0]? = some (.slice Ar rows.length cr) from rfl)
  by_cases h0 : i < 0
  · have hr : rowR rows i = [] := if_neg (by omega)
    rw [hr]
    have t1 := eq_true h0
    have t2 := decide_eq_true h0
    clear h h0 hr
    go_enter Try.func34, Try.ntmps34
    go_wp2
    go_ret
    exact ⟨_, rfl, Kd.R_nil _ _ _ _ _, Below.refl _ _⟩
  · have t1 := eq_false h0
    have t2 := decide_eq_false h0
    by_cases h1 : (rows.length : Int) ≤ i
    · have hr : rowR rows i = [] := if_neg (by omega)
      rw [hr]
      have t3 := eq_true h1
      have t4 := decide_eq_true h1
      clear h h0 h1 hr
      go_enter Try.func34, Try.ntmps34
      go_wp2
      go_ret
      exact ⟨_, rfl, Kd.R_nil _ _ _ _ _, Below.refl _ _⟩
    · have t3 := eq_false h1
      have t4 := decide_eq_false h1
      have t5 := eq_true (show 0 ≤ i by omega)
      have t6 := eq_true (show i < (rows.length : Int) by omega)
      have hr : rowR rows i = rdRow rows i := if_pos (by omega)
      rw [hr]
      obtain ⟨ad, A0, c0, eA, c2, hc0, hC0⟩ := atRow (Kd.N_reads' h.n).2.2 i (by omega) (by omega)
      have HL : Aside0 ((rdRow rows i).length ≤ 1000000000) := ⟨by
        unfold rdRow
        rw [List.getD_eq_getElem?_getD, List.getElem?_eq_getElem (show i.toNat < rows.length by omega)]
        exact h.ok _ (List.getElem_mem _)⟩
      subst eA
      have HC0 := Aside0.mk hC0
      clear h h0 h1 hr hC0 hc0
      generalize rdRow rows i = r at c2 HL HC0 ⊢
      have c3 := (World.cell?_alloc_lt w (.cells #[] 27) _ (World.block_lt_of_cell? w _ c1)).trans c1
      have c4 := (World.cell?_alloc_lt w (.cells #[] 27) _ (World.block_lt_of_cell? w _ c2)).trans c2
      go_enter Try.func34, Try.ntmps34
      go_wp2_with (at_builtin; go_loud (refine Kd.R_append_rows k27 (w0 := w) w.heap.size (by rfl) (.tmp 16) (.tmp 23) 24 27 (.agg #[(.int .i64 0), (.int .i64 0)]) 16 rfl Try.underlying24 infoPairT rfl (by decide) (by omega) (.slice (some ⟨w.heap.size, 0, none⟩) 0 0) [] r _ _ _ (fun _ => True) (fun _ => False) rfl rfl ?aO (Kd.C_below HC0.out (below_alloc (Below.refl _ _) _)) (fun _ _ h => h) (fun _ h => h.elim) (fun _ _ => trivial) (below_alloc (Below.refl _ _) _) (by rw [size_alloc]; omega) ?aL ?_))
      case aO => exact Kd.R_mono (pairs_R (w := w.alloc (.cells #[] 27)) (base := w.heap.size) (v := .slice (some ⟨w.heap.size, 0, none⟩) 0 0) (es := []) ⟨rfl, .inr ⟨w.heap.size, 0, _, rfl, Nat.le_refl _, blk_newAt _ rfl, Nat.le_refl _, by unfold maxLen; omega, rfl, rfl⟩⟩) (fun _ _ => trivial)
      case aL => have := HL.out; simp; omega
      intro v4 w4 hv4 hb4 hg4 hat4
      have HV4 := Aside0.mk (show Kd.R k27 27 w4 w.heap.size (fun _ => True) v4 r by simpa using hv4)
      have HB4 := Aside0.mk hb4
      clear hv4 hb4 hg4 hat4
      go_wp2
      go_ret
      exact ⟨v4, rfl, HV4.out, HB4.out⟩
set_option maxHeartbeats 8000000 in
set_option maxRecDepth 100000 in
theorem rputA (gt : Nat) (ft : Nat → Prop) (rows : List (List TPair)) (A : Option Addr) (c : Nat) (p : List TPair) (r : List TPair) (hrp : onceC cmpPair p = r) (w : World) (h : RTab w gt ft rows) (hr : Kd.C k27 w A p.length p) (hc : p.length ≤ c) (hl : p.length ≤ 1000000000) (hn : rows.length ≤ 1000000000) (hm : r ∈ rows) :
    Calls Try.prog 30 #[.pointer (some ⟨gt, 0, none⟩), .slice A p.length c] w fun e w' => e = .returned (.tuple #[.int .i64 (rows.idxOf r : Int), .bool false]) ∧ Below w.heap.size w w' := by
  have HF := Aside0.mk (rfind_calls gt ft rows A c p w h hr hc hl hn)
  rw [hrp] at HF
  have HM := Aside0.mk hm
  clear h hr hc hl hn hm hrp
  go_enter Try.func30, Try.ntmps30
  go_wp2_with fail
  refine HF.out.mono ?_
  rintro e w1 ⟨rfl, hb1⟩
  rw [if_pos HM.out, decide_eq_true HM.out]
  have HB1 := Aside0.mk hb1
  clear hb1
  go_wp2
  go_ret2
  exact ⟨rfl, HB1.out⟩
set_option maxHeartbeats 8000000 in
set_option maxRecDepth 100000 in
theorem rputB (gt : Nat) (ft : Nat → Prop) (rows : List (List TPair)) (A : Option Addr) (c : Nat) (p : List TPair) (r : List TPair) (hrp : onceC cmpPair p = r) (w : World) (h : RTab w gt ft rows) (hr : Kd.C k27 w A p.length p) (hc : p.length ≤ c) (hl : p.length ≤ 1000000000) (hn : rows.length ≤ 1000000000) (hm : r ∉ rows) :
    Calls Try.prog 30 #[.pointer (some ⟨gt, 0, none⟩), .slice A p.length c] w fun e w' => e = .returned (.tuple #[.int .i64 (rows.length : Int), .bool true]) ∧ ∃ ft', RTab w' gt ft' (rows ++ [r]) ∧ (∀ k, ft' k → ft k ∨ w.heap.size ≤ k) ∧ Fr ft w w' := by
  have HF := Aside0.mk (rfind_calls gt ft rows A c p w h hr hc hl hn)
  rw [hrp] at HF
  obtain ⟨kp, hkp⟩ := Ev.rounds (ev_Pairs p hl)
  rw [hrp] at hkp
  have HM := Aside0.mk hm
  have HK := Aside0.mk hkp
  have HR := Aside0.mk (And.intro hr hc)
  have HRL : Aside0 (r.length ≤ 1000000000) := ⟨by rw [← hrp]; exact Nat.le_trans (once_len totalPair p) hl⟩
  have HL := Aside0.mk hn
  obtain ⟨vr, h⟩ := h
  obtain ⟨Ar, cr, rfl⟩ := Kd.N_slice h.n
  have HT := Aside0.mk h
  clear h hr hc hl hn hm hrp hkp
  go_enter Try.func30, Try.ntmps30
  go_wp2_with fail
  refine HF.out.mono ?_
  rintro e w1 ⟨rfl, hb1⟩
  rw [if_neg HM.out, decide_eq_false HM.out]
  have HB1 := Aside0.mk hb1
  have HT1 := Aside0.mk (HT.out.below hb1)
  clear hb1
  go_wp2
  refine start_ (n := 12) (S := fun w' => w'.cell? ⟨gt, 0, none⟩ = some (.slice Ar rows.length cr)) (ds := [11]) #[false, false, false, false, false, false, false, false, false, false, false, false] (by kernel_rfl) rfl rfl ((blk_cell HT1.out.t 0).trans rfl) (fun hHeld => ?_)
  have HTd := Aside0.mk (HT1.out.below (below_drew (Below.refl _ _)))
  have HBd : Aside0 (Below w.heap.size w w1.drew) := ⟨below_drew HB1.out⟩
  have HRd := Aside0.mk (And.intro (Kd.C_drew (Kd.C_below HR.out.1 HB1.out)) HR.out.2)
  generalize w1.drew = wd at HTd HBd HRd hHeld ⊢
  clear HT1 HB1
  refine pure_ (i := 0) (N := (some 16)) (v := ?_) (a' := ?_) #[true, false, false, false, false, false, false, false, false, false, false, false] rfl rfl (by kernel_rfl) (fun _ _ _ h => h) (Or.inl ⟨by rfl, ?_⟩) ?_ ?_
  rotate_left
  · intro w'
    go_simp
    with_reducible rfl
  rotate_left
  · simp only [Act.put, List.setIfInBounds_toArray, List.set_cons_zero, List.set_cons_succ, i64_w, i32_w]
    rfl
  refine pure_ (i := 1) (N := (some 17)) (v := ?_) (a' := ?_) #[true, true, false, false, false, false, false, false, false, false, false, false] rfl rfl (by kernel_rfl) (fun _ _ _ h => h) (Or.inl ⟨by rfl, ?_⟩) ?_ ?_
  rotate_left
  · intro w'
    go_simp
    with_reducible rfl
  rotate_left
  · simp only [Act.put, List.setIfInBounds_toArray, List.set_cons_zero, List.set_cons_succ, i64_w, i32_w]
    rfl
  refine pure_ (i := 2) (N := (some 18)) (v := ?_) (a' := ?_) #[true, true, true, false, false, false, false, false, false, false, false, false] rfl rfl (by kernel_rfl) (fun _ _ _ h => h) (Or.inl ⟨by rfl, ?_⟩) ?_ ?_
  rotate_left
  · intro w'
    go_simp
    with_reducible rfl
  rotate_left
  · simp only [Act.put, List.setIfInBounds_toArray, List.set_cons_zero, List.set_cons_succ, i64_w, i32_w]
    rfl
  refine pure_ (i := 3) (N := (some 19)) (v := ?_) (a' := ?_) #[true, true, true, true, false, false, false, false, false, false, false, false] rfl rfl (by kernel_rfl) (fun _ _ _ h => h) (Or.inl ⟨by rfl, ?_⟩) ?_ ?_
  rotate_left
  · intro w'
    go_simp
    with_reducible rfl
  rotate_left
  · simp only [Act.put, List.setIfInBounds_toArray, List.set_cons_zero, List.set_cons_succ, i64_w, i32_w]
    rfl
  refine take_ (i := 4) (N := (some 20)) (v := ?_) (a' := ?_) #[true, true, true, true, true, false, false, false, false, false, false, false] rfl rfl (by kernel_rfl) (fun _ _ _ h => h) (Or.inl ⟨by rfl, ?_⟩) hHeld ?_ ?_
  rotate_left
  · intro w' hS_
    go_simp
    with_reducible rfl
  rotate_left
  · simp only [Act.put, List.setIfInBounds_toArray, List.set_cons_zero, List.set_cons_succ, i64_w, i32_w]
    rfl
  refine pure_ (i := 5) (N := (some 21)) (v := ?_) (a' := ?_) #[true, true, true, true, true, true, false, false, false, false, false, false] rfl rfl (by kernel_rfl) (fun _ _ _ h => h) (Or.inl ⟨by rfl, ?_⟩) ?_ ?_
  rotate_left
  · intro w'
    go_simp
    with_reducible rfl
  rotate_left
  · simp only [Act.put, List.setIfInBounds_toArray, List.set_cons_zero, List.set_cons_succ, i64_w, i32_w]
    rfl
  refine one_ (i := 6) (N := (some 22)) #[true, true, true, true, true, true, true, false, false, false, false, false] rfl rfl (by kernel_rfl) (by decide) (fun K hK => ?_)
  refine goes_ Try.func20 (by kernel_rfl) rfl #[.slice A p.length c] (by rfl) rfl rfl (by (try simp only [List.map_toArray, List.map_cons, List.map_nil]); rfl) ?_
  refine (canopyref2_Pairs.calls kp A c p r _ HRd.out.1 HRd.out.2 HK.out).mono ?_
  rintro e w2 ⟨v2, rfl, ho2, hb2⟩
  obtain ⟨A2, c2, rfl⟩ := Kd.R_slice ho2
  have HO2 := Aside0.mk ho2
  have HT2 := Aside0.mk (HTd.out.below hb2)
  have HB2 := Aside0.mk (below_then HBd.out HBd.out.size hb2)
  have HB2w := Aside0.mk hb2
  have HZ2 : Aside0 (wd.heap.size ≤ w2.heap.size) := ⟨hb2.size⟩
  clear ho2 hb2
  refine ⟨_, rfl, ?_⟩
  refine hK.out _ _ ((blk_cell HT2.out.t 0).trans rfl) (fun hHeld => ?_)
  clear hK K
  refine norm_ (a' := ?_) ?_ ?_
  rotate_left
  · show Act.put _ (some 22) _ = _
    simp only [Act.put, List.setIfInBounds_toArray, List.set_cons_zero, List.set_cons_succ, i64_w, i32_w]
    rfl
  refine one_ (i := 7) (N := (some 23)) #[true, true, true, true, true, true, true, true, false, false, false, false] rfl rfl (by kernel_rfl) (by decide) (fun K hK => ?_)
  refine step_run (v := .slice (some ⟨w2.heap.size, 0, none⟩) 1 1) (w1 := w2.alloc (.cells #[.slice A2 r.length c2] 24)) rfl (by go_simp) ?_
  refine hK.out _ _ ((blk_cell (blk_old HT2.out.t _) 0).trans rfl) (fun hHeld => ?_)
  clear hK K
  refine norm_ (a' := ?_) ?_ ?_
  rotate_left
  · show Act.put _ (some 23) _ = _
    simp only [Act.put, List.setIfInBounds_toArray, List.set_cons_zero, List.set_cons_succ, i64_w, i32_w]
    rfl
  refine one_ (i := 8) (N := (some 24)) #[true, true, true, true, true, true, true, true, true, false, false, false] rfl rfl (by kernel_rfl) (by decide) (fun K hK => ?_)
  refine Kd.N_append_step kRow (w0 := w2) 0 rfl (.tmp 20) (.tmp 23) 59 24 (.slice none 0 0) 24 rfl Try.underlying59 infoRow rfl (by decide) (by decide) (.slice Ar rows.length cr) rows r [.slice A2 r.length c2] (fun k => (ft k ∨ w.heap.size ≤ k) ∧ k ≠ gt) (fun k => wd.heap.size ≤ k ∧ k < w2.heap.size) rfl rfl (F_row (Kd.F_mono (Kd.F_bound (Kd.R_F (Kd.R_mono (Kd.R_bound HO2.out) (fun k hk => (hk.2.1 : wd.heap.size ≤ k))))) (fun k hk => hk)) (Kd.R_reads' HO2.out).2.1) ?qa ?qb ?qc (Below.refl _ _) (Nat.zero_le _) ?qd ?_
  case qa =>
    intro k hk
    have hz := HBd.out.size
    refine ⟨⟨.inr (by omega), fun e => by have := HTd.out.lt gt HTd.out.gin; omega⟩, fun e => ?_⟩
    have h1 := HTd.out.lt k (HTd.out.n.1 k e.symm).1
    omega
  case qb =>
    intro k hk
    have hz := HBd.out.size
    have hz2 := HZ2.out
    exact ⟨.inr (by omega), fun e => by have := HT2.out.lt gt HT2.out.gin; omega⟩
  case qc => exact Kd.N_mono HT2.out.n (fun k hk => ⟨.inl hk.1, hk.2⟩)
  case qd => have := HL.out; omega
  intro vr1 w3 hn3 _ hg3 hat3
  obtain ⟨A7, c7, he7⟩ := Kd.N_slice hn3
  rw [List.length_append, List.length_singleton] at he7
  subst he7
  have HN3 := Aside0.mk hn3
  have HG3 := Aside0.mk hg3
  have hgt3 : w3.heap[gt]? = some (.cells #[.slice Ar rows.length cr] 65 (0, 0)) := (hg3.block gt (blk_lt HT2.out.t) (Kd.N_ne HT2.out.n HT2.out.t (by decide))).trans HT2.out.t
  have HT3 := Aside0.mk hgt3
  clear hn3 hg3 hat3 hgt3
  refine hK.out _ _ ((blk_cell HT3.out 0).trans rfl) (fun hHeld => ?_)
  clear hK K
  refine norm_ (a' := ?_) ?_ ?_
  rotate_left
  · show Act.put _ (some 24) _ = _
    simp only [Act.put, List.setIfInBounds_toArray, List.set_cons_zero, List.set_cons_succ, i64_w, i32_w]
    rfl
  refine pure_ (i := 9) (N := (some 25)) (v := ?_) (a' := ?_) #[true, true, true, true, true, true, true, true, true, true, false, false] rfl rfl (by kernel_rfl) (fun _ _ _ h => h) (Or.inl ⟨by rfl, ?_⟩) ?_ ?_
  rotate_left
  · intro w'
    go_simp
    with_reducible rfl
  rotate_left
  · simp only [Act.put, List.setIfInBounds_toArray, List.set_cons_zero, List.set_cons_succ, i64_w, i32_w]
    rfl
  refine pure_ (i := 10) (N := (some 26)) (v := ?_) (a' := ?_) #[true, true, true, true, true, true, true, true, true, true, true, false] rfl rfl (by kernel_rfl) (fun _ _ _ h => h) (Or.inl ⟨by rfl, ?_⟩) ?_ ?_
  rotate_left
  · intro w'
    go_simp
    with_reducible rfl
  rotate_left
  · simp only [Act.put, List.setIfInBounds_toArray, List.set_cons_zero, List.set_cons_succ, i64_w, i32_w]
    rfl
  refine last_ (i := 11) (N := none) #[true, true, true, true, true, true, true, true, true, true, true, true] rfl rfl (by kernel_rfl) (by decide) (fun K hK => ?_)
  refine Go.Proofs.Ytmkpfamngedcmaa.M.step_skip (w1 := w3.setCell ⟨gt, 0, none⟩ (.slice A7 (rows.length + 1) c7)) rfl rfl ?hs ?_
  case hs =>
    have c8 := (blk_cell HT3.out 0).trans (show (#[Value.slice Ar rows.length cr] : Array Value)[0]? = some (.slice Ar rows.length cr) from rfl)
    have f8 := blk_frozen HT3.out 0
    go_simp
  refine hK.out _ _ ?_ 
  clear hK K
  refine done_ (by kernel_rfl) ?_
  have hset : (w3.setCell ⟨gt, 0, none⟩ (.slice A7 (rows.length + 1) c7)).heap[gt]? = some (.cells #[.slice A7 (rows.length + 1) c7] 65 (0, 0)) := blk_set HT3.out 0 _
  have hsz : w3.heap.size ≤ (w3.setCell ⟨gt, 0, none⟩ (.slice A7 (rows.length + 1) c7)).heap.size := ((Fr.refl (fun k => k = gt) w3).set (p := ⟨gt, 0, none⟩) (.inl rfl) _).kept.1
  have HF9 : Aside0 (Fr ft wd (w3.setCell ⟨gt, 0, none⟩ (.slice A7 (rows.length + 1) c7))) := ⟨((Fr.of_below HB2w.out).grown HG3.out (fun k hk => .inl (HT2.out.n.1 k hk).1)).set (.inl HT2.out.gin) _⟩
  have HT9 : Aside0 (RTab (w3.setCell ⟨gt, 0, none⟩ (.slice A7 (rows.length + 1) c7)) gt (fun k => (ft k ∨ w.heap.size ≤ k) ∧ k < w3.heap.size) (rows ++ [r])) := ⟨_, ⟨fun k hk => Nat.lt_of_lt_of_le hk.2 hsz, ⟨.inl HT2.out.gin, blk_lt HT3.out⟩, fun q hq => by
    rcases List.mem_append.1 hq with h | h
    · exact HT2.out.ok q h
    · rw [List.mem_singleton.1 h]; exact HRL.out, hset, Kd.N_far (Kd.N_mono (Kd.N_bound HN3.out) (fun k hk => ⟨⟨hk.1.1, hk.2⟩, hk.1.2⟩)) (fun k hk => hk.2) _⟩⟩
  have HFw : Aside0 (Fr ft w (w3.setCell ⟨gt, 0, none⟩ (.slice A7 (rows.length + 1) c7))) := ⟨(Fr.of_below HBd.out).then_ HF9.out (fun k hk => .inl hk)⟩
  have c9 := (blk_cell hset 0).trans (show (#[Value.slice A7 (rows.length + 1) c7] : Array Value)[0]? = some (.slice A7 (rows.length + 1) c7) from rfl)
  have wr1 : wrap64 (rows.length : Int) = (rows.length : Int) := by have := HL.out; unfold wrap64; omega
  clear hset hsz HF9 HN3 HG3 HT3 HT2 HB2 HO2 HTd HRd
  go_wp2
  go_ret2
  refine ⟨by first | rfl | (rw [wr1]; rfl) | (simp [wr1]; done), _, HT9.out, fun k hk => hk.1, HFw.out⟩
theorem rput_calls (gt : Nat) (ft : Nat → Prop) (rows : List (List TPair)) (A : Option Addr) (c : Nat) (p : List TPair) (w : World) (h : RTab w gt ft rows) (hr : Kd.C k27 w A p.length p) (hc : p.length ≤ c) (hl : p.length ≤ 1000000000) (hn : rows.length ≤ 1000000000) :
    Calls Try.prog 30 #[.pointer (some ⟨gt, 0, none⟩), .slice A p.length c] w fun e w' => e = .returned (.tuple #[.int .i64 (putI rows (onceC cmpPair p)), .bool (decide (onceC cmpPair p ∉ rows))]) ∧ ∃ ft', RTab w' gt ft' (putR rows (onceC cmpPair p)) ∧ (∀ k, ft' k → ft k ∨ w.heap.size ≤ k) ∧ Fr ft w w' := by
  by_cases hm : onceC cmpPair p ∈ rows
  · refine (rputA gt ft rows A c p _ rfl w h hr hc hl hn hm).mono ?_
    rintro e w' ⟨rfl, hb⟩
    unfold putI putR
    rw [if_pos hm, if_pos hm]
    exact ⟨by simp [hm], ft, h.below hb, fun _ hk => .inl hk, Fr.of_below hb⟩
  · refine (rputB gt ft rows A c p _ rfl w h hr hc hl hn hm).mono ?_
    rintro e w' ⟨rfl, hb⟩
    unfold putI putR
    rw [if_neg hm, if_neg hm]
    exact ⟨by simp [hm], hb⟩
end Go.Proofs.Ytmkpfamngedcmaa.P
