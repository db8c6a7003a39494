/- runs.once at a row of places: in order, each once, in memory of its own. -/
import Derived.Test.YtjkhdldgmkkhjaaSCompact
import Derived.Shelf.SlSortCmp.NoneTotal
set_option linter.unusedVariables false
set_option linter.unusedSimpArgs false
set_option linter.unnecessarySimpa false
namespace Go.Proofs.Ytjkhdldgmkkhjaa.P
open Go.RowKit Go.Sort Go.Shelf Go.Proofs.YtjkhdldgmkkhjaaW.PrintWords Go.Proofs.YtjkhdldgmkkhjaaW.PrintLast Go.Proofs.YtjkhdldgmkkhjaaW.PrintMore Go.Proofs.Ytjkhdldgmkkhjaa.M

theorem infoAt : (Try.prog.info? 48).map (fun i => (i.zero, i.size, i.bytes)) = some (some (.agg #[.int .i64 0, .slice none 0 0]), 2, 32) := by kernel_rfl

theorem own_mono {w : World} {base base' : Nat} {e : TypeId} {size : Nat} {v : Value} {n : Nat} {xs : List Value} (h : w.ownsRow base e size v n xs) (hb : base' ≤ base) : w.ownsRow base' e size v n xs := by
  refine ⟨h.1, ?_⟩
  rcases h.2 with h1 | ⟨g, cap, cur, h1, h2, h3⟩
  · exact .inl h1
  · exact .inr ⟨g, cap, cur, h1, by omega, h3⟩
set_option maxHeartbeats 2000000 in
set_option maxRecDepth 100000 in
theorem clone_at (w : World) (base g n cap : Nat) (es : List (TAt × Value)) (hn : n = es.length) (hl : es.length ≤ 1000000000) (h : AtRow w base (.slice (some ⟨g, 0, none⟩) n cap) es) :
    Calls Try.prog 50 #[.slice (some ⟨g, 0, none⟩) n cap] w fun e w' => ∃ v', e = .returned v' ∧ w'.ownsRow w.heap.size 48 2 v' es.length (es.flatMap encE) ∧ Below w.heap.size w w' := by
  subst hn
  obtain ⟨i0, hi, hz0, hz1, hz2⟩ := info_parts infoAt
  have q22 : ∀ (w : World) (a : Option Addr) (n c n' c' : Nat), (binOp .eql 33 (.slice a n c) (.slice none n' c')).run Try.prog w = .ok (.bool a.isNone) w := fun w a n c n' c' => Lib.run_eql_slice_nil w _ _ a n c n' c' Try.underlying33
  obtain ⟨ho, hs, ha⟩ := h
  obtain ⟨hh, hb, hc⟩ := Has2.of_own rfl ho
  have A := Aside0.mk ho
  have HL := Aside0.mk hl
  have HS := Aside0.mk hs
  have HH := Aside0.mk hh
  clear ho hs ha hh hb hc hl
  go_enter Try.func50, Try.ntmps50
  go_wp2_with (at_builtin; refine wpList_append_own _ rfl _ _ 33 rfl w.heap.size 48 i0 (.agg #[.int .i64 0, .slice none 0 0]) 2 32 Try.underlying33 hi hz0 hz1 hz2 rfl (by decide) _ _ _ rfl (World.ownsRow_made w #[] 0 (Nat.le_refl _) (Nat.zero_le _) rfl) ⟨g, 0, none⟩ es.length cap (es.flatMap encE) rfl ?qc1 ?qc2 ?qc3 ?qc4 ?qc5 ?qc6 ?_)
  case qc1 => exact flat_len hkE es
  case qc2 =>
    intro j u hj
    rw [Addr.add_lit]
    refine Lib.cell?_alloc_some _ ?_
    have := A.out.cells (g := g) rfl j u hj
    rwa [Addr.add_lit] at this
  case qc3 =>
    intro u hu
    obtain ⟨x, hx, hx2⟩ := List.mem_flatMap.1 hu
    simp [encE] at hx2
    rcases hx2 with rfl | rfl
    · rfl
    · exact one_val (HS.out x hx).1
  case qc4 => have := HL.out; unfold maxLen; omega
  case qc5 => have := HL.out; omega
  case qc6 => simp
  intro v' w1 hown hgrow hnil
  go_wp2
  go_ret
  refine ⟨v', rfl, by simpa using hown, ?_⟩
  exact ((Below.refl _ w).alloc (Nat.le_refl _) _).grown hgrow (by simp) (by intro k hk; simp [Value.ownBlock] at hk; omega)

set_option maxHeartbeats 1000000 in
theorem clone_at_nil (n c : Nat) (w : World) :
    Calls Try.prog 50 #[.slice none n c] w fun e w' => e = .returned (.slice none 0 0) ∧ w' = w := by
  have q22 : ∀ (w : World) (a : Option Addr) (n c n' c' : Nat), (binOp .eql 33 (.slice a n c) (.slice none n' c')).run Try.prog w = .ok (.bool a.isNone) w := fun w a n c n' c' => Lib.run_eql_slice_nil w _ _ a n c n' c' Try.underlying33
  go_enter Try.func50, Try.ntmps50
  go_wp2
  go_ret
  exact ⟨rfl, rfl⟩

set_option maxHeartbeats 1000000 in
theorem compact_nil (w : World) (f : Value) :
    Calls Try.prog 48 #[.slice none 0 0, f] w fun e w' => e = .returned (.slice none 0 0) ∧ w' = w := by
  go_enter Try.func48, Try.ntmps48
  go_wp2
  go_ret
  exact ⟨rfl, rfl⟩

set_option maxHeartbeats 4000000 in
set_option maxRecDepth 100000 in
theorem once_calls (w : World) (base : Nat) (v : Value) (es : List (TAt × Value)) (hv : v = .slice none 0 0 ∨ es ≠ []) (hl : es.length ≤ 1000000000) (h : AtRow w base v es) :
    Calls Try.prog 33 #[v] w fun e w' => ∃ (v' : Value) (es' : List (TAt × Value)), e = .returned v' ∧ es'.map (·.1) = onceC cmpAt (es.map (·.1)) ∧ (∀ p ∈ es', p ∈ es) ∧ es'.Pairwise Lone ∧
      (∀ p ∈ es', Stk w' base p) ∧ w'.ownsRow w.heap.size 48 2 v' es'.length (es'.flatMap encE) ∧ w.grownBy w' v.ownBlock := by
  by_cases hne : es = []
  · subst hne
    rcases hv with rfl | h0
    · clear h hl
      go_enter Try.func33, Try.ntmps33
      go_wp2_with (first
        | (go_at_call 46; go_loud (refine (AnyF.slices_SortFunc_none Try.sortAt none 0 _ _).mono ?_; rintro e w' ⟨rfl, rfl⟩))
        | (go_at_call 48; go_loud (refine (compact_nil _ _).mono ?_; rintro e w' ⟨rfl, rfl⟩))
        | (go_at_call 50; go_loud (refine (clone_at_nil 0 0 _).mono ?_; rintro e w' ⟨rfl, rfl⟩)))
      go_ret
      exact ⟨_, [], rfl, rfl, by simp, .nil, by simp, World.ownsRow_nil _ _ _ _, gb_refl _ _⟩
    · exact absurd rfl h0
  · obtain ⟨g, cap, hvv⟩ : ∃ g cap, v = .slice (some ⟨g, 0, none⟩) es.length cap := by
      rcases h.1.2 with ⟨h1, h2⟩ | ⟨g, cap, cur, h1, _⟩
      · exact absurd (List.length_eq_zero_iff.1 h2) hne
      · exact ⟨g, cap, h1⟩
    subst hvv
    have HR := Aside0.mk h
    have HL := Aside0.mk hl
    have HN := Aside0.mk hne
    clear h hl hne hv
    go_enter Try.func33, Try.ntmps33
    go_wp2_with (first
      | (go_at_call 46; go_loud (refine (sort_at _ base g es.length cap es rfl HN.out HL.out HR.out).mono ?_; rintro e w1 ⟨rfl, es1, hp1, hs1, hr1, hg1⟩; have Hp1 := Aside0.mk hp1; have Hs1 := Aside0.mk hs1; have Hr1 := Aside0.mk hr1; have Hg1 := Aside0.mk hg1; clear hp1 hs1 hr1 hg1))
      | (go_at_call 48; go_loud (refine (compact_at _ base g es.length cap es1 Hp1.out.length_eq.symm (by rw [Hp1.out.length_eq]; exact HL.out) Hr1.out).mono ?_; rintro e w2 ⟨rfl, hr2, hg2⟩; have Hr2 := Aside0.mk hr2; have Hg2 := Aside0.mk hg2; clear hr2 hg2))
      | (go_at_call 50; go_loud (refine (clone_at _ base g _ cap (dd eqAt es1) rfl (by have := (dd_sub eqAt es1).length_le; have h2 := Hp1.out.length_eq; have := HL.out; omega) Hr2.out).mono ?_; rintro e w3 ⟨v3, rfl, ho3, hb3⟩; have Ho3 := Aside0.mk ho3; have Hb3 := Aside0.mk hb3; clear ho3 hb3)))
    go_ret
    have hmem : ∀ p ∈ dd eqAt es1, p ∈ es := fun p hp => Hp1.out.mem_iff.1 ((dd_sub eqAt es1).subset hp)
    refine ⟨v3, dd eqAt es1, rfl, ?_, hmem, Hr2.out.2.2, fun p hp => stk_one (Hr2.out.2.1 p hp) Hb3.out, own_mono Ho3.out ?_, ?_⟩
    · have h1 := dd_map (fun p : TAt × Value => p.1) (fun x y => decide (cmpAt x y = 0)) es1
      refine Eq.trans h1 (totalAt.dd_once ?_ (fun x => (Hp1.out.map (·.1)).mem_iff))
      rw [List.pairwise_map]
      exact Hs1.out.imp (fun {a b} h => by omega)
    · have := Hg1.out.size; have := Hg2.out.size; omega
    · have b := Hb3.out
      exact gb_trans (gb_trans Hg1.out Hg2.out) ⟨b.os, b.tape, b.output, b.size, fun k hk _ => b.block k hk⟩
end Go.Proofs.Ytjkhdldgmkkhjaa.P
