/- slices.BinarySearchFunc at a row of pairs in order: whether one is there. -/
import Derived.Test.YtmkpfamngedcmaaSPairs
set_option linter.unusedVariables false
set_option linter.unusedSimpArgs false
set_option linter.unnecessarySimpa false
namespace Go.Proofs.Ytmkpfamngedcmaa.P
open Go.RowKit Go.Proofs.YtmkpfamngedcmaaW.PrintWords Go.Proofs.YtmkpfamngedcmaaW.PrintLast Go.Proofs.YtmkpfamngedcmaaW.PrintMore Go.Proofs.Ytmkpfamngedcmaa.M

/-- a call of a function value that a slot holds -/
theorem goesV_ {P : Program} {ops : Array Oper} {Q : Exit → Act → World → Prop} {oi : Oper} {N : Option Tmp} {a : Act} {w : World} {K : Act → World → Prop} {f : FuncId} {fn : Func} {ags : Array Operand} {ts : Array TypeId} {o : Operand} (hf : P.funcs[f]? = some fn) (hname : (fn.name == "runtime.NumGoroutine") = false) (hb : fn.body.isSome = true) (args : Array Value)
    (hw : Region.wanted oi (yielded ops a.tmps) = true) (hN : oi.dst = N) (hop : oi.op = .call { callee := .value o, args := ags, argTypes := ts }) (hv : a.eval o = .func (.func f) #[] #[]) (hargs : ags.map a.eval = args)
    (h : Calls P f args w fun e w' => ∃ v, e = .returned v ∧ K (a.put N v) w') : if Region.wanted oi (yielded ops a.tmps) = true then Oper.wp P oi a w K Q else K (a.put N undef) w := by
  refine call_ f args hw hN ?_ h
  have he := enters_ hf hname hb args w
  unfold execOp
  simp [hop, resolve, Deferred.ofValue, invoke, hv, hargs, he]
theorem pair_at {w : World} {A : Option Addr} {n : Nat} {xs : List TPair} (h : Kd.C k27 w A n xs) (i : Nat) (hi : i < xs.length) : ∃ ad, A = some ad ∧ w.cell? (ad.add (i * 2)) = some (.int .i64 xs[i].f0) ∧ w.cell? ⟨(ad.add (i * 2)).block, (ad.add (i * 2)).off + 1, none⟩ = some (.int .i64 xs[i].f1) := by
  have hn : n = xs.length := by have := h.1; omega
  obtain ⟨ad, e, h1, h2⟩ := at_T27 h (i : Int) (by omega) (by omega)
  rw [Int.toNat_natCast] at h1 h2
  have hx : rd_T27 xs (i : Int) = xs[i] := by
    unfold rd_T27
    rw [Int.toNat_natCast, List.getD_eq_getElem?_getD, List.getElem?_eq_getElem hi]
    rfl
  rw [hx] at h1 h2
  exact ⟨ad, e, h1, h2⟩
set_option maxHeartbeats 8000000 in
set_option maxRecDepth 100000 in
theorem bsearch (A : Option Addr) (c : Nat) (es : List TPair) (x : TPair) (w : World) (hr : Kd.C k27 w A es.length es) (hs : es.Pairwise (fun a b => cmpPair a b < 0)) (hl : es.length ≤ 1000000000) :
    Calls Try.prog 53 #[.slice A es.length c, .agg #[.int .i64 x.f0, .int .i64 x.f1], .func (.func 45) #[] #[]] w fun e w' => ∃ i : Int, e = .returned (.tuple #[.int .i64 i, .bool (es.any fun y => eqP y x)]) ∧ Below w.heap.size w w' := by
  have HR := Aside0.mk hr
  have HL := Aside0.mk hl
  have HS := Aside0.mk hs
  clear hr hl hs
  obtain ⟨x0, x1⟩ := x
  go_enter Try.func53, Try.ntmps53
  go_wp2
  have HX : Aside0 ((w.alloc (.cells #[.int .i64 x0, .int .i64 x1] 27)).heap[w.heap.size]? = some (.cells #[.int .i64 x0, .int .i64 x1] 27 (0, 0))) := ⟨blk_newAt _ rfl⟩
  have HB : Aside0 (Below w.heap.size w (w.alloc (.cells #[.int .i64 x0, .int .i64 x1] 27))) := ⟨below_alloc (Below.refl _ _) _⟩
  generalize w.alloc (.cells #[.int .i64 x0, .int .i64 x1] 27) = w1 at HX HB ⊢
  go_loopg [9, 10] es.length (fun gq v9 v10 w' => ∃ (i j : Nat), v9 = .int .i64 (i : Int) ∧ v10 = .int .i64 (j : Int) ∧ Aside0 (i ≤ j ∧ j ≤ es.length ∧ j - i ≤ gq) ∧ Aside0 (∀ q (h : q < es.length), q < i → cmpPair es[q] ⟨x0, x1⟩ < 0) ∧ Aside0 (∀ q (h : q < es.length), j ≤ q → ¬ cmpPair es[q] ⟨x0, x1⟩ < 0) ∧ Aside0 (w'.heap[w.heap.size]? = some (.cells #[.int .i64 x0, .int .i64 x1] 27 (0, 0))) ∧ Aside0 (Below w.heap.size w w'))
  case atStart => exact ⟨0, es.length, rfl, rfl, ⟨Nat.zero_le _, Nat.le_refl _, Nat.le_refl _⟩, ⟨fun q h hq => by omega⟩, ⟨fun q h hq => by omega⟩, HX, HB⟩
  case round =>
    obtain ⟨i, j, rfl, rfl, Hij, Hlo, Hhi, HXr, HBr⟩ := hrel
    clear HX HB
    by_cases hlt : i < j
    · have d1 : (i < j) = True := eq_true hlt
      obtain ⟨m, hm⟩ : ∃ m, m = (i + j) / 2 := ⟨_, rfl⟩
      have hmw : wrap64 (IntKind.u64.wrap (wrap64 ((i : Int) + (j : Int))) / 2) = (m : Int) := by
        have := Hij.out
        have := HL.out
        have e1 : wrap64 ((i : Int) + (j : Int)) = (i : Int) + (j : Int) := by unfold wrap64; omega
        have e2 : IntKind.u64.wrap ((i : Int) + (j : Int)) = (i : Int) + (j : Int) := by
          simp only [IntKind.wrap, IntKind.signed, IntKind.bits]
          simp
          omega
        rw [e1, e2]
        unfold wrap64
        omega
      have Hm : Aside0 (i ≤ m ∧ m < j) := ⟨by omega⟩
      have HLT := Aside0.mk hlt
      have hme : m < es.length := by have := Hij.out.2.1; omega
      have HRr := Kd.C_below HR.out HBr.out
      obtain ⟨ad, eA, c0, c1⟩ := pair_at HRr m hme
      have Hc : Aside0 (∃ h : m < es.length, es[m] = es[m]'hme) := ⟨hme, rfl⟩
      have Hy : Aside0 (∀ q (h : q < es.length), q ≤ m → cmpPair es[q] (es[m]'hme) ≤ 0) := ⟨fun q h hq => by
        by_cases e : q = m
        · subst e; rw [totalPair.self]; omega
        · have := List.pairwise_iff_getElem.1 HS.out q m h hme (by omega)
          omega⟩
      have Hy2 : Aside0 (∀ q (h : q < es.length), m ≤ q → cmpPair (es[m]'hme) es[q] ≤ 0) := ⟨fun q h hq => by
        by_cases e : q = m
        · subst e; rw [totalPair.self]; omega
        · have := List.pairwise_iff_getElem.1 HS.out m q hme h (by omega)
          omega⟩
      clear HRr Hc
      generalize es[m]'hme = y at c0 c1 Hy Hy2
      obtain ⟨y0, y1⟩ := y
      have eA0 := eA
      subst eA0
      clear eA hm
      have b0 := (blk_cell HXr.out 0).trans (show (#[Value.int .i64 x0, Value.int .i64 x1] : Array Value)[0]? = some (.int .i64 x0) from rfl)
      have b1 := (blk_cell HXr.out 1).trans (show (#[Value.int .i64 x0, Value.int .i64 x1] : Array Value)[1]? = some (.int .i64 x1) from rfl)
      have t1 := eq_true (show (0 : Int) ≤ (m : Int) by omega)
      have t2 := eq_true (show (m : Int) < (es.length : Int) by omega)
      clear hlt hme
      go_wp2
      try rw [hmw]
      refine start_ (n := 8) (S := fun w' => w'.cell? (ad.add (m * 2)) = some (.int .i64 y0) ∧ w'.cell? ⟨(ad.add (m * 2)).block, (ad.add (m * 2)).off + 1, none⟩ = some (.int .i64 y1) ∧ w'.cell? ⟨w.heap.size, 0, none⟩ = some (.int .i64 x0) ∧ w'.cell? ⟨w.heap.size, 1, none⟩ = some (.int .i64 x1)) (ds := [6]) #[false, false, false, false, false, false, false, false] (by kernel_rfl) rfl rfl ⟨c0, c1, b0, b1⟩ (fun hHeld => ?_)
      refine pure_ (i := 0) (N := (some 24)) (v := ?_) (a' := ?_) #[true, false, false, false, false, false, false, false] rfl rfl (by kernel_rfl) (fun _ _ _ h => h) (Or.inl ⟨by rfl, ?_⟩) ?_ ?_
      rotate_left
      · intro w'
        go_simp
        with_reducible rfl
      rotate_left
      · simp only [Act.put, List.setIfInBounds_toArray, List.set_cons_zero, List.set_cons_succ, i64_w, i32_w]
        rfl
      refine pure_ (i := 1) (N := (some 25)) (v := ?_) (a' := ?_) #[true, true, false, false, false, false, false, false] rfl rfl (by kernel_rfl) (fun _ _ _ h => h) (Or.inl ⟨by rfl, ?_⟩) ?_ ?_
      rotate_left
      · intro w'
        go_simp
        with_reducible rfl
      rotate_left
      · simp only [Act.put, List.setIfInBounds_toArray, List.set_cons_zero, List.set_cons_succ, i64_w, i32_w]
        rfl
      refine pure_ (i := 2) (N := (some 26)) (v := ?_) (a' := ?_) #[true, true, true, false, false, false, false, false] rfl rfl (by kernel_rfl) (fun _ _ _ h => h) (Or.inl ⟨by rfl, ?_⟩) ?_ ?_
      rotate_left
      · intro w'
        go_simp
        with_reducible rfl
      rotate_left
      · simp only [Act.put, List.setIfInBounds_toArray, List.set_cons_zero, List.set_cons_succ, i64_w, i32_w]
        rfl
      refine pure_ (i := 3) (N := (some 27)) (v := ?_) (a' := ?_) #[true, true, true, true, false, false, false, false] rfl rfl (by kernel_rfl) (fun _ _ _ h => h) (Or.inl ⟨by rfl, ?_⟩) ?_ ?_
      rotate_left
      · intro w'
        go_simp
        with_reducible rfl
      rotate_left
      · simp only [Act.put, List.setIfInBounds_toArray, List.set_cons_zero, List.set_cons_succ, i64_w, i32_w]
        rfl
      refine take_ (i := 4) (N := (some 28)) (v := ?_) (a' := ?_) #[true, true, true, true, true, false, false, false] rfl rfl (by kernel_rfl) (fun _ _ _ h => h) (Or.inl ⟨by rfl, ?_⟩) hHeld ?_ ?_
      rotate_left
      · intro w' hS_
        obtain ⟨s0, s1, s2, s3⟩ := hS_
        go_simp
        with_reducible rfl
      rotate_left
      · simp only [Act.put, List.setIfInBounds_toArray, List.set_cons_zero, List.set_cons_succ, i64_w, i32_w]
        rfl
      refine take_ (i := 5) (N := (some 29)) (v := ?_) (a' := ?_) #[true, true, true, true, true, true, false, false] rfl rfl (by kernel_rfl) (fun _ _ _ h => h) (Or.inl ⟨by rfl, ?_⟩) hHeld ?_ ?_
      rotate_left
      · intro w' hS_
        obtain ⟨s0, s1, s2, s3⟩ := hS_
        go_simp
        with_reducible rfl
      rotate_left
      · simp only [Act.put, List.setIfInBounds_toArray, List.set_cons_zero, List.set_cons_succ, i64_w, i32_w]
        rfl
      refine last_ (i := 6) (N := (some 30)) #[true, true, true, true, true, true, true, false] rfl rfl (by kernel_rfl) (by decide) (fun K hK => ?_)
      refine goesV_ (o := .tmp 24) (ags := #[.tmp 28, .tmp 29]) Try.func45 (by kernel_rfl) rfl #[.agg #[.int .i64 y0, .int .i64 y1], .agg #[.int .i64 x0, .int .i64 x1]] rfl rfl rfl rfl (by (try simp only [List.map_toArray, List.map_cons, List.map_nil]); rfl) ?_
      refine (orderP_calls y0 y1 x0 x1 _).mono ?_
      rintro e w3 ⟨rfl, hw⟩
      have HB3 := Aside0.mk (below_then (below_drew HBr.out) (below_drew HBr.out).size hw.below)
      have HX3 : Aside0 (w3.heap[w.heap.size]? = some (.cells #[.int .i64 x0, .int .i64 x1] 27 (0, 0))) := ⟨(hw.below.block _ (blk_lt HXr.out)).trans HXr.out⟩
      clear hw
      refine ⟨_, rfl, ?_⟩
      refine hK.out _ _ ?_
      clear hK K
      refine norm_ (a' := ?_) ?_ ?_
      rotate_left
      · show Act.put _ (some 30) _ = _
        simp only [Act.put, List.setIfInBounds_toArray, List.set_cons_zero, List.set_cons_succ, i64_w, i32_w]
        rfl
      refine pure_ (i := 7) (N := (some 31)) (v := ?_) (a' := ?_) #[true, true, true, true, true, true, true, true] rfl rfl (by kernel_rfl) (fun _ _ _ h => h) (Or.inl ⟨by rfl, ?_⟩) ?_ ?_
      rotate_left
      · intro w'
        go_simp
        with_reducible rfl
      rotate_left
      · simp only [Act.put, List.setIfInBounds_toArray, List.set_cons_zero, List.set_cons_succ, i64_w, i32_w]
        rfl
      refine done_ (by kernel_rfl) ?_
      have Hd : Aside0 (decide (cmpPair ⟨y0, y1⟩ ⟨x0, x1⟩ < 0) = decide (orInt (cmpInt y0 x0) (cmpInt y1 x1) < 0)) := ⟨rfl⟩
      clear hmw c0 c1 b0 b1 t1 t2
      generalize decide (orInt (cmpInt y0 x0) (cmpInt y1 x1) < 0) = bb at Hd ⊢
      cases bb with
      | true =>
        go_wp2
        go_roundg (j - (m + 1))
        case measure => have := Hij.out; have := Hm.out; omega
        case rel => exact ⟨m + 1, j, by have := HL.out; have := Hm.out; have := Hij.out; rw [show wrap64 ((m : Int) + 1) = ((m + 1 : Nat) : Int) by unfold wrap64; omega], rfl, ⟨by have := Hm.out; omega, Hij.out.2.1, Nat.le_refl _⟩, ⟨fun q h hq => by
          have h1 := Hy.out q h (by omega)
          have h2 : cmpPair ⟨y0, y1⟩ ⟨x0, x1⟩ < 0 := of_decide_eq_true Hd.out
          by_cases e : cmpPair es[q] ⟨y0, y1⟩ = 0
          · rw [totalPair.zero.1 e]; exact h2
          · exact totalPair.trans (show cmpPair es[q] ⟨y0, y1⟩ < 0 by omega) h2⟩, Hhi, HX3, HB3⟩
      | false =>
        go_wp2
        go_roundg (m - i)
        case measure => have := Hij.out; have := Hm.out; omega
        case rel => exact ⟨i, m, rfl, rfl, ⟨Hm.out.1, by have := Hm.out; have := Hij.out; omega, Nat.le_refl _⟩, Hlo, ⟨fun q h hq => by
          have h1 := Hy2.out q h hq
          have h2 : ¬ cmpPair ⟨y0, y1⟩ ⟨x0, x1⟩ < 0 := of_decide_eq_false Hd.out
          have h4 : ¬ cmpPair es[q] ⟨x0, x1⟩ < 0 := by
            intro h3
            by_cases e : cmpPair ⟨y0, y1⟩ es[q] = 0
            · rw [totalPair.zero.1 e] at h2; exact h2 h3
            · exact h2 (totalPair.trans (show cmpPair ⟨y0, y1⟩ es[q] < 0 by omega) h3)
          omega⟩, HX3, HB3⟩
    · have d1 : (i < j) = False := eq_false hlt
      have hij : i = j := by have := Hij.out.1; omega
      subst hij
      have HRr := Kd.C_below HR.out HBr.out
      have b0 := (blk_cell HXr.out 0).trans (show (#[Value.int .i64 x0, Value.int .i64 x1] : Array Value)[0]? = some (.int .i64 x0) from rfl)
      have b1 := (blk_cell HXr.out 1).trans (show (#[Value.int .i64 x0, Value.int .i64 x1] : Array Value)[1]? = some (.int .i64 x1) from rfl)
      clear hlt
      by_cases hin : i < es.length
      · obtain ⟨ad, eA, c0, c1⟩ := pair_at HRr i hin
        have Hin : Aside0 ((es.any fun y => eqP y ⟨x0, x1⟩) = decide (cmpPair (es[i]'hin) ⟨x0, x1⟩ = 0)) := ⟨by
          rw [Bool.eq_iff_iff, List.any_eq_true, decide_eq_true_eq]
          constructor
          · rintro ⟨y, hy, hyx⟩
            rw [eqP_iff, decide_eq_true_eq] at hyx
            obtain ⟨q, hq, rfl⟩ := List.mem_iff_getElem.1 hy
            by_cases e : q = i
            · subst e; exact hyx
            · exfalso
              rcases Nat.lt_or_ge q i with h | h
              · have := Hlo.out q hq h; omega
              · have h1 := List.pairwise_iff_getElem.1 HS.out i q hin hq (by omega)
                have h2 := Hhi.out i hin (Nat.le_refl _)
                rw [totalPair.zero.1 hyx] at h1
                omega
          · intro h
            exact ⟨es[i], List.getElem_mem hin, by rw [eqP_iff, decide_eq_true_eq]; exact h⟩⟩
        generalize es[i]'hin = y at c0 c1 Hin
        obtain ⟨y0, y1⟩ := y
        have eA0 := eA
        subst eA0
        have t0 : decide ((i : Int) < (es.length : Int)) = true := decide_eq_true (by omega)
        have t1 := eq_true (show (0 : Int) ≤ (i : Int) by omega)
        have t2 := eq_true (show (i : Int) < (es.length : Int) by omega)
        have t3 : (i < es.length) = True := eq_true hin
        clear HRr eA hin
        go_wp2
        refine start_ (n := 16) (S := fun w' => w'.cell? (ad.add (i * 2)) = some (.int .i64 y0) ∧ w'.cell? ⟨(ad.add (i * 2)).block, (ad.add (i * 2)).off + 1, none⟩ = some (.int .i64 y1) ∧ w'.cell? ⟨w.heap.size, 0, none⟩ = some (.int .i64 x0) ∧ w'.cell? ⟨w.heap.size, 1, none⟩ = some (.int .i64 x1)) (ds := [11]) #[false, false, false, false, false, false, false, false, false, false, false, false, false, false, false, false] (by kernel_rfl) rfl rfl ⟨c0, c1, b0, b1⟩ (fun hHeld => ?_)
        refine pure_ (i := 0) (N := (some 35)) (v := ?_) (a' := ?_) #[true, false, false, false, false, false, false, false, false, false, false, false, false, false, false, false] rfl rfl (by kernel_rfl) (fun _ _ _ h => h) (Or.inl ⟨by rfl, ?_⟩) ?_ ?_
        rotate_left
        · intro w'
          go_simp
          with_reducible rfl
        rotate_left
        · simp only [Act.put, List.setIfInBounds_toArray, List.set_cons_zero, List.set_cons_succ, i64_w, i32_w]
          rfl
        refine pure_ (i := 1) (N := (some 36)) (v := ?_) (a' := ?_) #[true, true, false, false, false, false, false, false, false, false, false, false, false, false, false, false] rfl rfl (by kernel_rfl) (fun _ _ _ h => h) (Or.inl ⟨by rfl, ?_⟩) ?_ ?_
        rotate_left
        · intro w'
          go_simp
          with_reducible rfl
        rotate_left
        · simp only [Act.put, List.setIfInBounds_toArray, List.set_cons_zero, List.set_cons_succ, i64_w, i32_w]
          rfl
        refine pure_ (i := 2) (N := (some 37)) (v := ?_) (a' := ?_) #[true, true, true, false, false, false, false, false, false, false, false, false, false, false, false, false] rfl rfl (by kernel_rfl) (fun _ _ _ h => h) (Or.inl ⟨by rfl, ?_⟩) ?_ ?_
        rotate_left
        · intro w'
          go_simp
          with_reducible rfl
        rotate_left
        · simp only [Act.put, List.setIfInBounds_toArray, List.set_cons_zero, List.set_cons_succ, i64_w, i32_w]
          rfl
        refine pure_ (i := 3) (N := (some 38)) (v := ?_) (a' := ?_) #[true, true, true, true, false, false, false, false, false, false, false, false, false, false, false, false] rfl rfl (by kernel_rfl) (fun _ _ _ h => h) (Or.inl ⟨by rfl, ?_⟩) ?_ ?_
        rotate_left
        · intro w'
          go_simp
          with_reducible rfl
        rotate_left
        · simp only [Act.put, List.setIfInBounds_toArray, List.set_cons_zero, List.set_cons_succ, i64_w, i32_w]
          rfl
        refine pure_ (i := 4) (N := (some 39)) (v := ?_) (a' := ?_) #[true, true, true, true, true, false, false, false, false, false, false, false, false, false, false, false] rfl rfl (by kernel_rfl) (fun _ _ _ h => h) (Or.inl ⟨by rfl, ?_⟩) ?_ ?_
        rotate_left
        · intro w'
          go_simp
          with_reducible rfl
        rotate_left
        · simp only [Act.put, List.setIfInBounds_toArray, List.set_cons_zero, List.set_cons_succ, i64_w, i32_w]
          rfl
        refine pure_ (i := 5) (N := (some 40)) (v := ?_) (a' := ?_) #[true, true, true, true, true, true, false, false, false, false, false, false, false, false, false, false] rfl rfl (by kernel_rfl) (fun _ _ _ h => h) (Or.inl ⟨by rfl, ?_⟩) ?_ ?_
        rotate_left
        · intro w'
          go_simp
          with_reducible rfl
        rotate_left
        · simp only [Act.put, List.setIfInBounds_toArray, List.set_cons_zero, List.set_cons_succ, i64_w, i32_w]
          rfl
        refine pure_ (i := 6) (N := (some 41)) (v := ?_) (a' := ?_) #[true, true, true, true, true, true, true, false, false, false, false, false, false, false, false, false] rfl rfl (by kernel_rfl) (fun _ _ _ h => h) (Or.inl ⟨by rfl, ?_⟩) ?_ ?_
        rotate_left
        · intro w'
          go_simp
          with_reducible rfl
        rotate_left
        · simp only [Act.put, List.setIfInBounds_toArray, List.set_cons_zero, List.set_cons_succ, i64_w, i32_w]
          rfl
        refine pure_ (i := 7) (N := (some 42)) (v := ?_) (a' := ?_) #[true, true, true, true, true, true, true, true, false, false, false, false, false, false, false, false] rfl rfl (by kernel_rfl) (fun _ _ _ h => h) (Or.inl ⟨by rfl, ?_⟩) ?_ ?_
        rotate_left
        · intro w'
          go_simp
          with_reducible rfl
        rotate_left
        · simp only [Act.put, List.setIfInBounds_toArray, List.set_cons_zero, List.set_cons_succ, i64_w, i32_w]
          rfl
        refine pure_ (i := 8) (N := (some 43)) (v := ?_) (a' := ?_) #[true, true, true, true, true, true, true, true, true, false, false, false, false, false, false, false] rfl rfl (by kernel_rfl) (fun _ _ _ h => h) (Or.inl ⟨by rfl, ?_⟩) ?_ ?_
        rotate_left
        · intro w'
          go_simp
          with_reducible rfl
        rotate_left
        · simp only [Act.put, List.setIfInBounds_toArray, List.set_cons_zero, List.set_cons_succ, i64_w, i32_w]
          rfl
        refine take_ (i := 9) (N := (some 44)) (v := ?_) (a' := ?_) #[true, true, true, true, true, true, true, true, true, true, false, false, false, false, false, false] rfl rfl (by kernel_rfl) (fun _ _ _ h => h) (Or.inl ⟨by rfl, ?_⟩) hHeld ?_ ?_
        rotate_left
        · intro w' hS_
          obtain ⟨s0, s1, s2, s3⟩ := hS_
          go_simp
          with_reducible rfl
        rotate_left
        · simp only [Act.put, List.setIfInBounds_toArray, List.set_cons_zero, List.set_cons_succ, i64_w, i32_w]
          rfl
        refine take_ (i := 10) (N := (some 45)) (v := ?_) (a' := ?_) #[true, true, true, true, true, true, true, true, true, true, true, false, false, false, false, false] rfl rfl (by kernel_rfl) (fun _ _ _ h => h) (Or.inl ⟨by rfl, ?_⟩) hHeld ?_ ?_
        rotate_left
        · intro w' hS_
          obtain ⟨s0, s1, s2, s3⟩ := hS_
          go_simp
          with_reducible rfl
        rotate_left
        · simp only [Act.put, List.setIfInBounds_toArray, List.set_cons_zero, List.set_cons_succ, i64_w, i32_w]
          rfl
        refine last_ (i := 11) (N := (some 46)) #[true, true, true, true, true, true, true, true, true, true, true, true, false, false, false, false] rfl rfl (by kernel_rfl) (by decide) (fun K hK => ?_)
        refine goesV_ (o := .tmp 40) (ags := #[.tmp 44, .tmp 45]) Try.func45 (by kernel_rfl) rfl #[.agg #[.int .i64 y0, .int .i64 y1], .agg #[.int .i64 x0, .int .i64 x1]] rfl rfl rfl rfl (by (try simp only [List.map_toArray, List.map_cons, List.map_nil]); rfl) ?_
        refine (orderP_calls y0 y1 x0 x1 _).mono ?_
        rintro e w3 ⟨rfl, hw⟩
        have HB3 := Aside0.mk (below_then (below_drew HBr.out) (below_drew HBr.out).size hw.below)
        clear hw
        refine ⟨_, rfl, ?_⟩
        refine hK.out _ _ ?_
        clear hK K
        refine norm_ (a' := ?_) ?_ ?_
        rotate_left
        · show Act.put _ (some 46) _ = _
          simp only [Act.put, List.setIfInBounds_toArray, List.set_cons_zero, List.set_cons_succ, i64_w, i32_w]
          rfl
        refine pure_ (i := 12) (N := (some 47)) (v := ?_) (a' := ?_) #[true, true, true, true, true, true, true, true, true, true, true, true, true, false, false, false] rfl rfl (by kernel_rfl) (fun _ _ _ h => h) (Or.inl ⟨by rfl, ?_⟩) ?_ ?_
        rotate_left
        · intro w'
          go_simp
          with_reducible rfl
        rotate_left
        · simp only [Act.put, List.setIfInBounds_toArray, List.set_cons_zero, List.set_cons_succ, i64_w, i32_w]
          rfl
        refine pure_ (i := 13) (N := (some 48)) (v := ?_) (a' := ?_) #[true, true, true, true, true, true, true, true, true, true, true, true, true, true, false, false] rfl rfl (by kernel_rfl) (fun _ _ _ h => h) (Or.inl ⟨by rfl, ?_⟩) ?_ ?_
        rotate_left
        · intro w'
          go_simp
          with_reducible rfl
        rotate_left
        · simp only [Act.put, List.setIfInBounds_toArray, List.set_cons_zero, List.set_cons_succ, i64_w, i32_w]
          rfl
        refine pure_ (i := 14) (N := (some 6)) (v := ?_) (a' := ?_) #[true, true, true, true, true, true, true, true, true, true, true, true, true, true, true, false] rfl rfl (by kernel_rfl) (fun _ _ _ h => h) (Or.inl ⟨by rfl, ?_⟩) ?_ ?_
        rotate_left
        · intro w'
          go_simp
          with_reducible rfl
        rotate_left
        · simp only [Act.put, List.setIfInBounds_toArray, List.set_cons_zero, List.set_cons_succ, i64_w, i32_w]
          rfl
        refine pure_ (i := 15) (N := (some 7)) (v := ?_) (a' := ?_) #[true, true, true, true, true, true, true, true, true, true, true, true, true, true, true, true] rfl rfl (by kernel_rfl) (fun _ _ _ h => h) (Or.inl ⟨by rfl, ?_⟩) ?_ ?_
        rotate_left
        · intro w'
          go_simp
          with_reducible rfl
        rotate_left
        · simp only [Act.put, List.setIfInBounds_toArray, List.set_cons_zero, List.set_cons_succ, i64_w, i32_w]
          rfl
        refine done_ (by kernel_rfl) ?_
        have Hcv : Aside0 (decide (cmpPair ⟨y0, y1⟩ ⟨x0, x1⟩ = 0) = (orInt (cmpInt y0 x0) (cmpInt y1 x1) == 0)) := ⟨rfl⟩
        try go_wp2
        go_ret2
        exact ⟨i, by rw [Hin.out, Hcv.out]; rfl, HB3.out⟩
      · have He : Aside0 ((es.any fun y => eqP y ⟨x0, x1⟩) = false) := ⟨by
          rw [List.any_eq_false]
          intro y hy hyx
          rw [eqP_iff, decide_eq_true_eq] at hyx
          obtain ⟨q, hq, rfl⟩ := List.mem_iff_getElem.1 hy
          have := Hlo.out q hq (by have := Hij.out.2.1; omega)
          omega⟩
        have t3 : (i < es.length) = False := eq_false hin
        clear HRr hin
        go_wp2
        go_quiet (fail)
        try go_wp2
        go_ret2
        exact ⟨i, by rw [He.out]; rfl, pw_below_drewN HBr.out _⟩
end Go.Proofs.Ytmkpfamngedcmaa.P
