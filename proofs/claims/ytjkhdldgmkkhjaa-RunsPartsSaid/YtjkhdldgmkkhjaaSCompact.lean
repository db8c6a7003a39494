/- slices.CompactFunc at a row of places of a machine: of neighbours that are the same the first is left. -/
import Derived.Test.YtjkhdldgmkkhjaaSAt
import Derived.Test.YtjkhdldgmkkhjaaMAll
set_option linter.unusedVariables false
set_option linter.unusedSimpArgs false
set_option linter.unnecessarySimpa false
namespace Go.Proofs.Ytjkhdldgmkkhjaa.P
open Go.RowKit Go.Sort Go.Shelf Go.Proofs.YtjkhdldgmkkhjaaW.PrintWords Go.Proofs.YtjkhdldgmkkhjaaW.PrintLast Go.Proofs.YtjkhdldgmkkhjaaW.PrintMore Go.Proofs.Ytjkhdldgmkkhjaa.M

set_option maxHeartbeats 4000000 in
theorem once1_calls (x y : TAt) (u v : Value) (base1 base2 : Nat) (w : World) (hx : (Kd.int .i64).R 3 w base1 (fun _ => True) u x.f1) (hy : (Kd.int .i64).R 3 w base2 (fun _ => True) v y.f1) (hl : x.f1.length ≤ 1000000000) :
    Calls Try.prog 49 #[.agg #[.int .i64 x.f0, u], .agg #[.int .i64 y.f0, v]] w fun e w' => e = .returned (.bool (decide (cmpAt x y = 0))) ∧ GD w w' := by
  have HX := Aside0.mk hx
  have HY := Aside0.mk hy
  have HL := Aside0.mk hl
  clear hx hy hl
  obtain ⟨A, ca, rfl⟩ := Kd.R_slice HX.out
  obtain ⟨B, cb, rfl⟩ := Kd.R_slice HY.out
  go_enter Try.func49, Try.ntmps49
  go_wp2_with (go_at_call 47; go_loud (refine (order_calls x.f0 A ca x.f1 y.f0 B cb y.f1 _ ?c1 ?c2 ?c3 ?c4 HL.out).mono ?_); (case c1 => obtain ⟨_, _, e, _, h⟩ := Kd.R_reads (Kd.R_alloc (Kd.R_alloc HX.out _) _); cases e; exact h); (case c2 => obtain ⟨_, _, e, h, _⟩ := Kd.R_reads HX.out; cases e; exact h); (case c3 => obtain ⟨_, _, e, _, h⟩ := Kd.R_reads (Kd.R_alloc (Kd.R_alloc HY.out _) _); cases e; exact h); (case c4 => obtain ⟨_, _, e, h, _⟩ := Kd.R_reads HY.out; cases e; exact h); rintro e w' ⟨rfl, hw⟩; have HW := Aside0.mk hw; clear hw)
  go_ret
  refine ⟨?_, GD.trans ((GD.refl _).alloc _ |>.alloc _) HW.out⟩
  congr 2

/-- a call of a function value that a slot holds -/
theorem goesV_ {P : Program} {ops : Array Oper} {Q : Exit → Act → World → Prop} {oi : Oper} {N : Option Tmp} {a : Act} {w : World} {K : Act → World → Prop} {f : FuncId} {fn : Func} {ags : Array Operand} {ts : Array TypeId} {o : Operand} (hf : P.funcs[f]? = some fn) (hname : (fn.name == "runtime.NumGoroutine") = false) (hb : fn.body.isSome = true) (args : Array Value)
    (hw : Region.wanted oi (yielded ops a.tmps) = true) (hN : oi.dst = N) (hop : oi.op = .call { callee := .value o, args := ags, argTypes := ts }) (hv : a.eval o = .func (.func f) #[] #[]) (hargs : ags.map a.eval = args)
    (h : Calls P f args w fun e w' => ∃ v, e = .returned v ∧ K (a.put N v) w') : if Region.wanted oi (yielded ops a.tmps) = true then Oper.wp P oi a w K Q else K (a.put N undef) w := by
  refine call_ f args hw hN ?_ h
  have he := enters_ hf hname hb args w
  unfold execOp
  simp [hop, resolve, Deferred.ofValue, invoke, hv, hargs, he]
def eqAt (p q : TAt × Value) : Bool := decide (cmpAt p.1 q.1 = 0)
theorem hkE : ∀ p : TAt × Value, (encE p).length = 2 := fun _ => rfl

set_option maxHeartbeats 8000000 in
set_option maxRecDepth 100000 in
theorem compact_at (w : World) (base g n cap : Nat) (es : List (TAt × Value)) (hn : n = es.length) (hl : es.length ≤ 1000000000) (h : AtRow w base (.slice (some ⟨g, 0, none⟩) n cap) es) :
    Calls Try.prog 48 #[.slice (some ⟨g, 0, none⟩) n cap, .func (.func 49) #[] #[]] w fun e w' => e = .returned (.slice (some ⟨g, 0, none⟩) (dd eqAt es).length cap) ∧
      AtRow w' base (.slice (some ⟨g, 0, none⟩) (dd eqAt es).length cap) (dd eqAt es) ∧ w.grownBy w' (some g) := by
  subst hn
  obtain ⟨ho, hs, ha⟩ := h
  obtain ⟨hh, hb, hc⟩ := Has2.of_own rfl ho
  obtain ⟨cur0, hg0, _⟩ := id hh
  have HH := Aside0.mk hh
  have HO := Aside0.mk ho
  have HS := Aside0.mk hs
  have HA := Aside0.mk ha
  have HG0 := Aside0.mk hg0
  have hcap := hh
  obtain ⟨_, _, _, hcap, _⟩ := hcap
  have HC := Aside0.mk (And.intro hb (And.intro hc (And.intro hl hcap)))
  have same : Aside0 (∀ w', GD w w' → dd eqAt es = es → AtRow w' base (.slice (some ⟨g, 0, none⟩) (dd eqAt es).length cap) (dd eqAt es) ∧ w.grownBy w' (some g)) := ⟨fun w' hw he => by
    rw [he]
    refine ⟨⟨(HH.out.move (hw.below.block g HH.out.lt)).own hkE HC.out.1 HC.out.2.1, fun p hp => stk_one (HS.out p hp) hw.below, HA.out⟩, ?_⟩
    have b := hw.below
    exact ⟨b.os, b.tape, b.output, b.size, fun k hk _ => b.block k hk⟩⟩
  clear ho hs ha hh hb hc hg0 hcap
  by_cases h2 : es.length < 2
  · have d2 : decide ((es.length : Int) < 2) = true := decide_eq_true (by omega)
    have hone := Aside0.mk (dd_one eqAt es (by omega))
    clear h2 hl
    go_enter Try.func48, Try.ntmps48
    go_wp2
    go_ret
    have := same.out w (GD.refl w) hone.out
    exact ⟨by rw [hone.out]; rfl, this.1, this.2⟩
  · have d2 : decide ((es.length : Int) < 2) = false := decide_eq_false (by omega)
    clear hl
    go_enter Try.func48, Try.ntmps48
    go_wp2
    go_loopg [5] es.length (fun gq v5 w' => ∃ i : Nat, v5 = .int .i64 ((i : Int) + 1) ∧ Aside0 (i + 1 ≤ es.length ∧ es.length - (i + 1) ≤ gq) ∧ Aside0 (dd eqAt (es.take (i + 1)) = es.take (i + 1)) ∧ Aside0 (GD w w'))
    case atStart => exact ⟨0, rfl, ⟨by omega, by omega⟩, ⟨dd_one _ _ (by simp; omega)⟩, ⟨GD.refl w⟩⟩
    case round =>
      obtain ⟨i, rfl, Hi, Hd, Hg⟩ := hrel
      by_cases hlt : i + 1 < es.length
      · have d3 : decide ((i : Int) + 1 < (es.length : Int)) = true := decide_eq_true (by omega)
        have t1 := eq_true (show (0 : Int) ≤ (i : Int) + 1 by omega)
        have t2 := eq_true (show (i : Int) + 1 < (es.length : Int) by omega)
        have t3 := eq_true (show (0 : Int) ≤ (i : Int) by omega)
        have t4 := eq_true (show (i : Int) < (es.length : Int) by omega)
        have wr1 : wrap64 (i : Int) = (i : Int) := by have := HC.out.2.2.1; unfold wrap64; omega
        have HL := Aside0.mk hlt
        have HHr := HH.out.move (Hg.out.below.block g HH.out.lt)
        obtain ⟨c0, c1⟩ := HHr.cell hkE (i + 1) hlt (a := .int .i64 es[i + 1].1.f0) (b := es[i + 1].2) rfl
        obtain ⟨c2, c3⟩ := HHr.cell hkE i (by omega) (a := .int .i64 (es[i]'(by omega)).1.f0) (b := (es[i]'(by omega)).2) rfl
        clear HHr h2
        have Sx := Aside0.mk (stk_one (HS.out _ (List.getElem_mem hlt)) Hg.out.below)
        have Sy := Aside0.mk (stk_one (HS.out _ (List.getElem_mem (show i < es.length by omega))) Hg.out.below)
        have Hn := Aside0.mk (dd_next eqAt es (i + 1) (by omega) hlt)
        simp only [Nat.add_sub_cancel] at Hn
        obtain ⟨x, hx⟩ : ∃ x, x = es[i + 1] := ⟨_, rfl⟩
        rw [← hx] at c0 c1 Sx Hn
        have Hx : Aside0 (es[i + 1]? = some x) := ⟨by rw [hx]; exact List.getElem?_eq_getElem hlt⟩
        clear hx
        generalize es[i]'(by omega) = y at c2 c3 Sy Hn
        clear hlt
        obtain ⟨⟨x0, x1⟩, xv⟩ := x
        obtain ⟨⟨y0, y1⟩, yv⟩ := y
        obtain ⟨Ax, cx, ex⟩ := Kd.R_slice Sx.out.1
        obtain ⟨Ay, cy, ey⟩ := Kd.R_slice Sy.out.1
        replace ex : xv = .slice Ax x1.length cx := ex
        replace ey : yv = .slice Ay y1.length cy := ey
        subst ex
        subst ey
        go_wp2
        refine start_ (n := 11) (S := fun w' => w'.cell? ⟨g, (i + 1) * 2, none⟩ = some (.int .i64 x0) ∧ w'.cell? ⟨g, (i + 1) * 2 + 1, none⟩ = some (.slice Ax x1.length cx) ∧ w'.cell? ⟨g, i * 2, none⟩ = some (.int .i64 y0) ∧ w'.cell? ⟨g, i * 2 + 1, none⟩ = some (.slice Ay y1.length cy)) (ds := [10]) #[false, false, false, false, false, false, false, false, false, false, false] (by kernel_rfl) rfl rfl ⟨c0, c1, c2, c3⟩ (fun hHeld => ?_)
        refine pure_ (i := 0) (N := (some 18)) (v := ?_) (a' := ?_) #[true, false, false, false, false, false, false, false, false, false, false] rfl rfl (by kernel_rfl) (fun _ _ _ h => h) (Or.inl ⟨by rfl, ?_⟩) ?_ ?_
        rotate_left
        · intro w'
          go_simp
          with_reducible rfl
        rotate_left
        · simp only [Act.put, List.setIfInBounds_toArray, List.set_cons_zero, List.set_cons_succ, i64_w, i32_w]
          rfl
        refine pure_ (i := 1) (N := (some 19)) (v := ?_) (a' := ?_) #[true, true, false, false, false, false, false, false, false, false, false] rfl rfl (by kernel_rfl) (fun _ _ _ h => h) (Or.inl ⟨by rfl, ?_⟩) ?_ ?_
        rotate_left
        · intro w'
          go_simp
          with_reducible rfl
        rotate_left
        · simp only [Act.put, List.setIfInBounds_toArray, List.set_cons_zero, List.set_cons_succ, i64_w, i32_w]
          rfl
        refine pure_ (i := 2) (N := (some 20)) (v := ?_) (a' := ?_) #[true, true, true, false, false, false, false, false, false, false, false] rfl rfl (by kernel_rfl) (fun _ _ _ h => h) (Or.inl ⟨by rfl, ?_⟩) ?_ ?_
        rotate_left
        · intro w'
          go_simp
          with_reducible rfl
        rotate_left
        · simp only [Act.put, List.setIfInBounds_toArray, List.set_cons_zero, List.set_cons_succ, i64_w, i32_w]
          rfl
        refine pure_ (i := 5) (N := (some 23)) (v := ?_) (a' := ?_) #[true, true, true, false, false, true, false, false, false, false, false] rfl rfl (by kernel_rfl) (fun _ _ _ h => h) (Or.inl ⟨by rfl, ?_⟩) ?_ ?_
        rotate_left
        · intro w'
          go_simp
          with_reducible rfl
        rotate_left
        · simp only [Act.put, List.setIfInBounds_toArray, List.set_cons_zero, List.set_cons_succ, i64_w, i32_w]
          rfl
        refine pure_ (i := 6) (N := (some 24)) (v := ?_) (a' := ?_) #[true, true, true, false, false, true, true, false, false, false, false] rfl rfl (by kernel_rfl) (fun _ _ _ h => h) (Or.inl ⟨by rfl, ?_⟩) ?_ ?_
        rotate_left
        · intro w'
          go_simp
          with_reducible rfl
        rotate_left
        · simp only [Act.put, List.setIfInBounds_toArray, List.set_cons_zero, List.set_cons_succ, i64_w, i32_w]
          rfl
        refine pure_ (i := 3) (N := (some 21)) (v := ?_) (a' := ?_) #[true, true, true, true, false, true, true, false, false, false, false] rfl rfl (by kernel_rfl) (fun _ _ _ h => h) (Or.inl ⟨by rfl, ?_⟩) ?_ ?_
        rotate_left
        · intro w'
          go_simp
          with_reducible rfl
        rotate_left
        · simp only [Act.put, List.setIfInBounds_toArray, List.set_cons_zero, List.set_cons_succ, i64_w, i32_w]
          rfl
        refine pure_ (i := 7) (N := (some 25)) (v := ?_) (a' := ?_) #[true, true, true, true, false, true, true, true, false, false, false] rfl rfl (by kernel_rfl) (fun _ _ _ h => h) (Or.inl ⟨by rfl, ?_⟩) ?_ ?_
        rotate_left
        · intro w'
          go_simp
          with_reducible rfl
        rotate_left
        · simp only [Act.put, List.setIfInBounds_toArray, List.set_cons_zero, List.set_cons_succ, i64_w, i32_w]
          rfl
        refine pure_ (i := 8) (N := (some 26)) (v := ?_) (a' := ?_) #[true, true, true, true, false, true, true, true, true, false, false] rfl rfl (by kernel_rfl) (fun _ _ _ h => h) (Or.inl ⟨by rfl, ?_⟩) ?_ ?_
        rotate_left
        · intro w'
          go_simp
          with_reducible rfl
        rotate_left
        · simp only [Act.put, List.setIfInBounds_toArray, List.set_cons_zero, List.set_cons_succ, i64_w, i32_w]
          rfl
        refine take_ (i := 4) (N := (some 22)) (v := ?_) (a' := ?_) #[true, true, true, true, true, true, true, true, true, false, false] rfl rfl (by kernel_rfl) (fun _ _ _ h => h) (Or.inl ⟨by rfl, ?_⟩) hHeld ?_ ?_
        rotate_left
        · intro w' hS_
          obtain ⟨s0, s1, s2, s3⟩ := hS_
          go_simp
          with_reducible rfl
        rotate_left
        · simp only [Act.put, List.setIfInBounds_toArray, List.set_cons_zero, List.set_cons_succ, i64_w, i32_w]
          rfl
        refine take_ (i := 9) (N := (some 27)) (v := ?_) (a' := ?_) #[true, true, true, true, true, true, true, true, true, true, false] rfl rfl (by kernel_rfl) (fun _ _ _ h => h) (Or.inl ⟨by rfl, ?_⟩) hHeld ?_ ?_
        rotate_left
        · intro w' hS_
          obtain ⟨s0, s1, s2, s3⟩ := hS_
          go_simp
          with_reducible rfl
        rotate_left
        · simp only [Act.put, List.setIfInBounds_toArray, List.set_cons_zero, List.set_cons_succ, i64_w, i32_w]
          rfl
        refine last_ (i := 10) (N := (some 28)) #[true, true, true, true, true, true, true, true, true, true, true] rfl rfl (by kernel_rfl) (by decide) (fun K hK => ?_)
        refine goesV_ (o := .tmp 18) (ags := #[.tmp 22, .tmp 27]) Try.func49 (by kernel_rfl) rfl #[.agg #[.int .i64 x0, .slice Ax x1.length cx], .agg #[.int .i64 y0, .slice Ay y1.length cy]] rfl rfl rfl rfl (by (try simp only [List.map_toArray, List.map_cons, List.map_nil]); rfl) ?_
        refine (once1_calls ⟨x0, x1⟩ ⟨y0, y1⟩ (.slice Ax x1.length cx) (.slice Ay y1.length cy) base base wr.drew (Kd.R_step Sx.out.1 (fun _ _ _ => rfl)) (Kd.R_step Sy.out.1 (fun _ _ _ => rfl)) Sx.out.2).mono ?_
        rintro e w3 ⟨rfl, hw⟩
        have Hw := Aside0.mk (Hg.out.drew.trans hw)
        clear hw
        refine ⟨_, rfl, ?_⟩
        refine hK.out _ _ ?_
        clear hK K
        refine norm_ (a' := ?_) ?_ ?_
        rotate_left
        · show Act.put _ (some 28) _ = _
          simp only [Act.put, List.setIfInBounds_toArray, List.set_cons_zero, List.set_cons_succ, i64_w, i32_w]
          rfl
        refine done_ (by kernel_rfl) ?_
        have HX := Aside0.mk (And.intro Sx.out.2 Sy.out.2)
        clear Sx Sy c0 c1 c2 c3 hHeld
        have Hc : Aside0 ((eqAt ({ f0 := x0, f1 := x1 }, .slice Ax x1.length cx) ({ f0 := y0, f1 := y1 }, .slice Ay y1.length cy)) = decide (cmpAt { f0 := x0, f1 := x1 } { f0 := y0, f1 := y1 } = 0)) := ⟨rfl⟩
        generalize decide (cmpAt { f0 := x0, f1 := x1 } { f0 := y0, f1 := y1 } = 0) = bb at Hc ⊢
        cases bb with
        | false =>
          go_wp2
          go_roundg (es.length - (i + 2))
          case measure => have := Hi.out; have := HL.out; omega
          case rel => exact ⟨i + 1, by have := HC.out.2.2.1; have := HL.out; rw [show wrap64 ((i : Int) + 1 + 1) = ((i + 1 : Nat) : Int) + 1 by unfold wrap64; omega], ⟨HL.out, Nat.le_refl _⟩, ⟨by rw [Hn.out, Hd.out, Hc.out, if_neg (by decide), List.take_add_one (i := i + 1), Hx.out]; rfl⟩, Hw⟩
        | true =>
          have q1 : (cap = i + 1) = False := eq_false (by have := HL.out; have := HC.out.2.2.2; omega)
          have q2 := eq_true (show (i : Int) + 1 ≤ (es.length : Int) by have := HL.out; omega)
          go_wp2
          clear q1 q2 t1 t2 t3 t4 wr1 d3
          generalize hL2 : es.length - (i + 1) = L2
          generalize hC2 : cap - (i + 1) = C2
          have HL2 := Aside0.mk (And.intro hL2 hC2)
          clear hL2 hC2
          obtain ⟨wo, rfl⟩ : ∃ wo : World, wo = w3 := ⟨_, rfl⟩
          go_loopg [5, 7] es.length (fun gq v5 v7 w' => ∃ (kk j : Nat) (rows : List (TAt × Value)), v5 = .int .i64 (kk : Int) ∧ v7 = .int .i64 ((j : Int) + 1) ∧ Aside0 (j + 1 ≤ L2 ∧ L2 - (j + 1) ≤ gq ∧ 1 ≤ kk ∧ kk ≤ i + 1 + j ∧ kk = (dd eqAt (es.take (i + 1 + j + 1))).length) ∧ Aside0 (Has2 encE w' g 48 cap rows) ∧
            Aside0 (rows.length = es.length ∧ rows.take kk = dd eqAt (es.take (i + 1 + j + 1)) ∧ rows.drop (i + 1 + j) = es.drop (i + 1 + j)) ∧ Aside0 (w.grownBy w' (some g)))
          case atStart =>
            have e1 : dd eqAt (es.take (i + 1 + 1)) = es.take (i + 1) := by rw [Hn.out, Hd.out, Hc.out, if_pos rfl, List.append_nil]
            have b := Hw.out.below
            have := HL.out
            exact ⟨i + 1, 0, es, by push_cast; rfl, rfl, ⟨by have := HL2.out.1; omega, by have := HL2.out.1; omega, by omega, by omega, by simp only [Nat.add_zero]; rw [e1]; simp; omega⟩, ⟨HH.out.move (b.block g HH.out.lt)⟩, ⟨rfl, by simp only [Nat.add_zero]; rw [e1], rfl⟩, ⟨b.os, b.tape, b.output, b.size, fun k hk _ => b.block k hk⟩⟩
          case round =>
            obtain ⟨kk, j, rows, rfl, rfl, Hj, HM, Hr, Hgb⟩ := hrel
            by_cases hlt : j + 1 < L2
            · have d4 : decide ((j : Int) + 1 < (L2 : Int)) = true := decide_eq_true (by omega)
              have t1 := eq_true (show (0 : Int) ≤ (j : Int) + 1 by omega)
              have t2 := eq_true (show (j : Int) + 1 < (L2 : Int) by omega)
              have t3 := eq_true (show (0 : Int) ≤ (j : Int) by omega)
              have t4 := eq_true (show (j : Int) < (L2 : Int) by omega)
              have wr1 : wrap64 (j : Int) = (j : Int) := by have := HC.out.2.2.1; have := HL2.out.1; unfold wrap64; omega
              have HL3 := Aside0.mk hlt
              have hp : i + 1 + (j + 1) < es.length := by have := HL2.out.1; omega
              have hpr : i + 1 + (j + 1) < rows.length := by rw [Hr.out.1]; exact hp
              have e1 : rows[i + 1 + (j + 1)] = es[i + 1 + (j + 1)] := by
                have h1 : (rows.drop (i + 1 + j))[1]? = rows[i + 1 + (j + 1)]? := List.getElem?_drop
                have h2 : (es.drop (i + 1 + j))[1]? = es[i + 1 + (j + 1)]? := List.getElem?_drop
                rw [Hr.out.2.2, h2, List.getElem?_eq_getElem hp, List.getElem?_eq_getElem hpr] at h1
                exact (Option.some.inj h1).symm
              have e2 : rows[i + 1 + j]'(by omega) = es[i + 1 + j]'(by omega) := by
                have h1 := List.getElem?_drop (xs := rows) (i := i + 1 + j) (j := 0)
                have h2 := List.getElem?_drop (xs := es) (i := i + 1 + j) (j := 0)
                rw [Hr.out.2.2, h2, Nat.add_zero, List.getElem?_eq_getElem (by omega), List.getElem?_eq_getElem (by omega)] at h1
                exact (Option.some.inj h1).symm
              obtain ⟨c0, c1⟩ := HM.out.cell hkE (i + 1 + (j + 1)) hpr (a := .int .i64 es[i + 1 + (j + 1)].1.f0) (b := es[i + 1 + (j + 1)].2) (by rw [e1]; rfl)
              obtain ⟨c2, c3⟩ := HM.out.cell hkE (i + 1 + j) (by omega) (a := .int .i64 (es[i + 1 + j]'(by omega)).1.f0) (b := (es[i + 1 + j]'(by omega)).2) (by rw [e2]; rfl)
              rw [show (i + 1 + (j + 1)) * 2 = (i + 1) * 2 + (j + 1) * 2 by omega] at c0 c1
              rw [show (i + 1 + j) * 2 = (i + 1) * 2 + j * 2 by omega] at c2 c3
              have Sx := Aside0.mk (stk_types (HS.out _ (List.getElem_mem hp)) HG0.out Hgb.out)
              have Sy := Aside0.mk (stk_types (HS.out _ (List.getElem_mem (show i + 1 + j < es.length by omega))) HG0.out Hgb.out)
              have Hn2 := Aside0.mk (dd_next eqAt es (i + 1 + (j + 1)) (by omega) hp)
              simp only [show i + 1 + (j + 1) - 1 = i + 1 + j by omega] at Hn2
              obtain ⟨x, hx⟩ : ∃ x, x = es[i + 1 + (j + 1)] := ⟨_, rfl⟩
              rw [← hx] at c0 c1 Sx Hn2
              have Hx2 : Aside0 (es[i + 1 + (j + 1)]? = some x) := ⟨by rw [hx]; exact List.getElem?_eq_getElem hp⟩
              generalize es[i + 1 + j]'(by omega) = y at c2 c3 Sy Hn2
              have HxR : Aside0 (∃ h : i + 1 + (j + 1) < rows.length, rows[i + 1 + (j + 1)] = x) := ⟨hpr, e1.trans hx.symm⟩
              clear hlt e1 e2 hx hp hpr
              obtain ⟨⟨u0, u1⟩, xv⟩ := x
              obtain ⟨⟨v0, v1⟩, yv⟩ := y
              obtain ⟨Au, cu, ex⟩ := Kd.R_slice Sx.out.1
              obtain ⟨Av, cv, ey⟩ := Kd.R_slice Sy.out.1
              replace ex : xv = .slice Au u1.length cu := ex
              replace ey : yv = .slice Av v1.length cv := ey
              subst ex
              subst ey
              go_wp2
              refine start_ (n := 12) (S := fun w' => w'.cell? ⟨g, (i + 1) * 2 + (j + 1) * 2, none⟩ = some (.int .i64 u0) ∧ w'.cell? ⟨g, (i + 1) * 2 + (j + 1) * 2 + 1, none⟩ = some (.slice Au u1.length cu) ∧ w'.cell? ⟨g, (i + 1) * 2 + j * 2, none⟩ = some (.int .i64 v0) ∧ w'.cell? ⟨g, (i + 1) * 2 + j * 2 + 1, none⟩ = some (.slice Av v1.length cv)) (ds := [10]) #[false, false, false, false, false, false, false, false, false, false, false, false] (by kernel_rfl) rfl rfl ⟨c0, c1, c2, c3⟩ (fun hHeld => ?_)
              refine pure_ (i := 0) (N := (some 38)) (v := ?_) (a' := ?_) #[true, false, false, false, false, false, false, false, false, false, false, false] rfl rfl (by kernel_rfl) (fun _ _ _ h => h) (Or.inl ⟨by rfl, ?_⟩) ?_ ?_
              rotate_left
              · intro w'
                go_simp
                with_reducible rfl
              rotate_left
              · simp only [Act.put, List.setIfInBounds_toArray, List.set_cons_zero, List.set_cons_succ, i64_w, i32_w]
                rfl
              refine pure_ (i := 1) (N := (some 39)) (v := ?_) (a' := ?_) #[true, true, false, false, false, false, false, false, false, false, false, false] rfl rfl (by kernel_rfl) (fun _ _ _ h => h) (Or.inl ⟨by rfl, ?_⟩) ?_ ?_
              rotate_left
              · intro w'
                go_simp
                with_reducible rfl
              rotate_left
              · simp only [Act.put, List.setIfInBounds_toArray, List.set_cons_zero, List.set_cons_succ, i64_w, i32_w]
                rfl
              refine pure_ (i := 2) (N := (some 40)) (v := ?_) (a' := ?_) #[true, true, true, false, false, false, false, false, false, false, false, false] rfl rfl (by kernel_rfl) (fun _ _ _ h => h) (Or.inl ⟨by rfl, ?_⟩) ?_ ?_
              rotate_left
              · intro w'
                go_simp
                with_reducible rfl
              rotate_left
              · simp only [Act.put, List.setIfInBounds_toArray, List.set_cons_zero, List.set_cons_succ, i64_w, i32_w]
                rfl
              refine pure_ (i := 5) (N := (some 43)) (v := ?_) (a' := ?_) #[true, true, true, false, false, true, false, false, false, false, false, false] rfl rfl (by kernel_rfl) (fun _ _ _ h => h) (Or.inl ⟨by rfl, ?_⟩) ?_ ?_
              rotate_left
              · intro w'
                go_simp
                with_reducible rfl
              rotate_left
              · simp only [Act.put, List.setIfInBounds_toArray, List.set_cons_zero, List.set_cons_succ, i64_w, i32_w]
                rfl
              refine pure_ (i := 6) (N := (some 44)) (v := ?_) (a' := ?_) #[true, true, true, false, false, true, true, false, false, false, false, false] rfl rfl (by kernel_rfl) (fun _ _ _ h => h) (Or.inl ⟨by rfl, ?_⟩) ?_ ?_
              rotate_left
              · intro w'
                go_simp
                with_reducible rfl
              rotate_left
              · simp only [Act.put, List.setIfInBounds_toArray, List.set_cons_zero, List.set_cons_succ, i64_w, i32_w]
                rfl
              refine pure_ (i := 3) (N := (some 41)) (v := ?_) (a' := ?_) #[true, true, true, true, false, true, true, false, false, false, false, false] rfl rfl (by kernel_rfl) (fun _ _ _ h => h) (Or.inl ⟨by rfl, ?_⟩) ?_ ?_
              rotate_left
              · intro w'
                go_simp
                with_reducible rfl
              rotate_left
              · simp only [Act.put, List.setIfInBounds_toArray, List.set_cons_zero, List.set_cons_succ, i64_w, i32_w]
                rfl
              refine pure_ (i := 7) (N := (some 45)) (v := ?_) (a' := ?_) #[true, true, true, true, false, true, true, true, false, false, false, false] rfl rfl (by kernel_rfl) (fun _ _ _ h => h) (Or.inl ⟨by rfl, ?_⟩) ?_ ?_
              rotate_left
              · intro w'
                go_simp
                with_reducible rfl
              rotate_left
              · simp only [Act.put, List.setIfInBounds_toArray, List.set_cons_zero, List.set_cons_succ, i64_w, i32_w]
                rfl
              refine pure_ (i := 8) (N := (some 46)) (v := ?_) (a' := ?_) #[true, true, true, true, false, true, true, true, true, false, false, false] rfl rfl (by kernel_rfl) (fun _ _ _ h => h) (Or.inl ⟨by rfl, ?_⟩) ?_ ?_
              rotate_left
              · intro w'
                go_simp
                with_reducible rfl
              rotate_left
              · simp only [Act.put, List.setIfInBounds_toArray, List.set_cons_zero, List.set_cons_succ, i64_w, i32_w]
                rfl
              refine take_ (i := 4) (N := (some 42)) (v := ?_) (a' := ?_) #[true, true, true, true, true, true, true, true, true, false, false, false] rfl rfl (by kernel_rfl) (fun _ _ _ h => h) (Or.inl ⟨by rfl, ?_⟩) hHeld ?_ ?_
              rotate_left
              · intro w' hS_
                obtain ⟨s0, s1, s2, s3⟩ := hS_
                go_simp
                with_reducible rfl
              rotate_left
              · simp only [Act.put, List.setIfInBounds_toArray, List.set_cons_zero, List.set_cons_succ, i64_w, i32_w]
                rfl
              refine take_ (i := 9) (N := (some 47)) (v := ?_) (a' := ?_) #[true, true, true, true, true, true, true, true, true, true, false, false] rfl rfl (by kernel_rfl) (fun _ _ _ h => h) (Or.inl ⟨by rfl, ?_⟩) hHeld ?_ ?_
              rotate_left
              · intro w' hS_
                obtain ⟨s0, s1, s2, s3⟩ := hS_
                go_simp
                with_reducible rfl
              rotate_left
              · simp only [Act.put, List.setIfInBounds_toArray, List.set_cons_zero, List.set_cons_succ, i64_w, i32_w]
                rfl
              refine last_ (i := 10) (N := (some 48)) #[true, true, true, true, true, true, true, true, true, true, true, false] rfl rfl (by kernel_rfl) (by decide) (fun K hK => ?_)
              refine goesV_ (o := .tmp 38) (ags := #[.tmp 42, .tmp 47]) Try.func49 (by kernel_rfl) rfl #[.agg #[.int .i64 u0, .slice Au u1.length cu], .agg #[.int .i64 v0, .slice Av v1.length cv]] rfl rfl rfl rfl (by (try simp only [List.map_toArray, List.map_cons, List.map_nil]); rfl) ?_
              refine (once1_calls ⟨u0, u1⟩ ⟨v0, v1⟩ (.slice Au u1.length cu) (.slice Av v1.length cv) base base wr.drew (Kd.R_step Sx.out.1 (fun _ _ _ => rfl)) (Kd.R_step Sy.out.1 (fun _ _ _ => rfl)) Sx.out.2).mono ?_
              rintro e w4 ⟨rfl, hw⟩
              have hw4 := (GD.refl wr).drew.trans hw
              have HB4 := Aside0.mk hw4.below
              have Hgb4 := Aside0.mk (gb_trans Hgb.out (⟨hw4.below.os, hw4.below.tape, hw4.below.output, hw4.below.size, fun k hk _ => hw4.below.block k hk⟩ : wr.grownBy w4 (some g)))
              have HM4 := Aside0.mk (HM.out.move (hw4.below.block g HM.out.lt))
              clear hw hw4
              refine ⟨_, rfl, ?_⟩
              refine hK.out _ _ ?_
              clear hK K
              refine norm_ (a' := ?_) ?_ ?_
              rotate_left
              · show Act.put _ (some 48) _ = _
                simp only [Act.put, List.setIfInBounds_toArray, List.set_cons_zero, List.set_cons_succ, i64_w, i32_w]
                rfl
              refine pure_ (i := 11) (N := (some 49)) (v := ?_) (a' := ?_) #[true, true, true, true, true, true, true, true, true, true, true, true] rfl rfl (by kernel_rfl) (fun _ _ _ h => h) (Or.inl ⟨by rfl, ?_⟩) ?_ ?_
              rotate_left
              · intro w'
                go_simp
                with_reducible rfl
              rotate_left
              · simp only [Act.put, List.setIfInBounds_toArray, List.set_cons_zero, List.set_cons_succ, i64_w, i32_w]
                rfl
              refine done_ (by kernel_rfl) ?_
              have HX2 := Aside0.mk (And.intro Sx.out.2 Sy.out.2)
              clear Sx Sy c0 c1 c2 c3 hHeld
              have Hc2 : Aside0 ((eqAt ({ f0 := u0, f1 := u1 }, .slice Au u1.length cu) ({ f0 := v0, f1 := v1 }, .slice Av v1.length cv)) = decide (cmpAt { f0 := u0, f1 := u1 } { f0 := v0, f1 := v1 } = 0)) := ⟨rfl⟩
              generalize decide (cmpAt { f0 := u0, f1 := u1 } { f0 := v0, f1 := v1 } = 0) = b2 at Hc2 ⊢
              have Hlen := Aside0.mk (show (dd eqAt (es.take (i + 1 + (j + 1) + 1))).length = kk + if b2 = true then 0 else 1 by rw [Hn2.out, List.length_append, Hj.out.2.2.2.2, Hc2.out]; cases b2 <;> rfl)
              cases b2 with
              | true =>
                go_wp2
                go_roundg (L2 - (j + 2))
                case measure => have := Hj.out; have := HL3.out; omega
                case rel => exact ⟨kk, j + 1, rows, rfl, by have := HC.out.2.2.1; have := HL3.out; have := HL2.out.1; rw [show wrap64 ((j : Int) + 1 + 1) = ((j + 1 : Nat) : Int) + 1 by unfold wrap64; omega], ⟨HL3.out, Nat.le_refl _, Hj.out.2.2.1, by have := Hj.out; omega, Hlen.out.symm⟩, HM4, ⟨Hr.out.1, by rw [show i + 1 + (j + 1) + 1 = i + 1 + (j + 1) + 1 from rfl, Hn2.out, Hc2.out, if_pos rfl, List.append_nil]; exact Hr.out.2.1, by
                  have := congrArg (List.drop 1) Hr.out.2.2
                  rw [List.drop_drop, List.drop_drop] at this
                  exact this⟩, Hgb4⟩
              | false =>
                obtain ⟨hpr, e1⟩ := HxR.out
                obtain ⟨c0, c1⟩ := HM4.out.cell hkE (i + 1 + (j + 1)) hpr (a := .int .i64 u0) (b := .slice Au u1.length cu) (by rw [e1]; rfl)
                rw [show (i + 1 + (j + 1)) * 2 = (i + 1) * 2 + (j + 1) * 2 by omega] at c0 c1
                have hkr : kk < rows.length := by have := Hj.out; omega
                obtain ⟨c2, c3⟩ := HM4.out.cell hkE kk hkr (a := .int .i64 (rows[kk]).1.f0) (b := (rows[kk]).2) rfl
                generalize (rows[kk]).1.f0 = old0 at c2
                generalize (rows[kk]).2 = old1 at c3
                have f2 := HM4.out.frozen (kk * 2)
                have f3 := HM4.out.frozen (kk * 2 + 1)
                have t5 := eq_true (show (kk : Int) < (es.length : Int) by have := Hr.out.1; omega)
                have hkk := Aside0.mk hkr
                clear hpr e1 hkr
                go_wp2
                go_roundg (L2 - (j + 2))
                case measure => have := Hj.out; have := HL3.out; omega
                case rel =>
                  have q1 := Hj.out
                  have q2 := HC.out.2.2.1
                  have q3 := HL3.out
                  have q4 := HL2.out.1
                  refine ⟨kk + 1, j + 1, rows.set kk ({ f0 := u0, f1 := u1 }, .slice Au u1.length cu), by rw [show wrap64 ((kk : Int) + 1) = ((kk + 1 : Nat) : Int) by unfold wrap64; omega], by rw [show wrap64 ((j : Int) + 1 + 1) = ((j + 1 : Nat) : Int) + 1 by unfold wrap64; omega], ⟨HL3.out, Nat.le_refl _, by omega, by omega, Hlen.out.symm⟩, ⟨HM4.out.set hkE kk hkk.out _ rfl⟩, ⟨by rw [List.length_set]; exact Hr.out.1, ?_, ?_⟩, ⟨gb_trans Hgb4.out (gb_setCells [_, _] (kk * 2) w4)⟩⟩
                  · rw [take_set_next _ _ _ hkk.out, Hr.out.2.1, Hn2.out, Hc2.out, if_neg (by decide)]; rfl
                  · rw [List.drop_set_of_lt (by omega)]
                    have := congrArg (List.drop 1) Hr.out.2.2
                    rw [List.drop_drop, List.drop_drop] at this
                    exact this
            · have d4 : decide ((j : Int) + 1 < (L2 : Int)) = false := decide_eq_false (by omega)
              have hend : i + 1 + j + 1 = es.length := by have := Hj.out; have := HL2.out.1; have := HL.out; omega
              have hk := Aside0.mk (And.intro Hj.out.2.2.2.2 Hr.out.2.1)
              rw [hend, List.take_length] at hk
              have hkn : kk < es.length := by have := Hj.out; omega
              have hcp := HC.out.2.2.2
              obtain ⟨vs, hcl⟩ := run_clear2 (P := Try.prog) wr 33 48 (.agg #[.int .i64 0, .slice none 0 0]) (.int .i64 0) (.slice none 0 0) Try.underlying33 Try.zeroValue48 rfl rfl rfl g (kk * 2) (es.length - kk) (cap - kk) (by omega) (fun j hj => HM.out.has _ (by omega)) (fun j hj => HM.out.frozen _)
              have t1 := eq_true (show (kk : Int) ≤ (es.length : Int) by omega)
              have t2 := eq_true (show kk ≤ cap by omega)
              have t3 : (cap = kk) = False := eq_false (by omega)
              have t4 := eq_true (show (kk : Int) ≤ (cap : Int) by omega)
              clear hlt hend hkn hcp
              go_wp2
              have hf := HM.out.cut hkE kk vs
              rw [hk.out.2] at hf
              have hgb := gb_trans Hgb.out (gb_setCells (g := g) vs (kk * 2) wr)
              go_ret
              refine ⟨by rw [← hk.out.1]; rfl, ⟨hf.own hkE HC.out.1 HC.out.2.1, fun p hp => stk_types (HS.out p ((dd_sub eqAt es).subset hp)) HG0.out hgb, HA.out.sublist (dd_sub eqAt es)⟩, hgb⟩
      · have d3 : decide ((i : Int) + 1 < (es.length : Int)) = false := decide_eq_false (by omega)
        have He : Aside0 (dd eqAt es = es) := ⟨by have := Hi.out.1; have h := Hd.out; rw [List.take_of_length_le (by omega)] at h; exact h⟩
        clear hlt
        go_wp2
        go_ret
        have := same.out wr Hg.out He.out
        exact ⟨by rw [He.out]; rfl, this.1, this.2⟩

end Go.Proofs.Ytjkhdldgmkkhjaa.P
