/- runs.Start: what it computes, and that the Go text computes it. -/
import Derived.Test.YtjkhdldgmkkhjaaSOnce
import Derived.Test.YtjkhdldgmkkhjaaWApart
import Derived.Test.YtjkhdldgmkkhjaaSTakesDef
set_option linter.unusedVariables false
set_option linter.unusedSimpArgs false
set_option linter.unnecessarySimpa false
namespace Go.Proofs.Ytjkhdldgmkkhjaa.P
open Go.RowKit Go.Sort Go.Shelf Go.Proofs.YtjkhdldgmkkhjaaW.PrintWords Go.Proofs.YtjkhdldgmkkhjaaW.PrintLast Go.Proofs.YtjkhdldgmkkhjaaW.PrintMore Go.Proofs.Ytjkhdldgmkkhjaa.M

/-- places as a row whose stacks lie apart -/
theorem pack_S {w : World} {base : Nat} {v : Value} {es : List (TAt × Value)} (ho : w.ownsRow base 48 2 v es.length (es.flatMap encE)) (hs : ∀ p ∈ es, Stk w base p) (ha : es.Pairwise Lone) :
    Kd.S k48 48 w base (fun _ => True) v (es.map (·.1)) := by
  refine ⟨fun k => es.findIdx (fun p => decide (p.2.ownBlock = some k)), fun _ _ => trivial, es.flatMap encE, ?_, ?_⟩
  · rw [List.length_zipIdx, List.length_map]; exact ho
  · refine ⟨by rw [flat_len hkE]; simp; rfl, fun j p hj => ?_⟩
    rw [List.getElem?_zipIdx, List.getElem?_map, Nat.zero_add] at hj
    cases hq : es[j]? with
    | none => rw [hq] at hj; cases hj
    | some q =>
      rw [hq] at hj
      cases hj
      obtain ⟨hlt, hq2⟩ := List.getElem?_eq_some_iff.1 hq
      have hst := hs q (hq2 ▸ List.getElem_mem hlt)
      have hcells : ((es.flatMap encE).drop (j * 2)).take 2 = [.int .i64 q.1.f0, q.2] := by
        have h1 := flat_get hkE es j hlt (.int .i64 q.1.f0) q.2 (by rw [hq2]; rfl)
        apply List.ext_getElem?
        intro t
        rw [List.getElem?_take, List.getElem?_drop]
        match t with
        | 0 => simpa using h1.1
        | 1 => simpa using h1.2
        | t + 2 => rw [if_neg (by omega)]; rfl
      show k48.M w base _ q.1 (((es.flatMap encE).drop (j * 2)).take 2)
      rw [hcells]
      refine k48_mkM w base _ q.1 ?_
      refine ⟨fun k hk => ⟨⟨trivial, fun e => ?_⟩, ?_⟩, hst.1.2⟩
      · obtain ⟨c1, h1⟩ := own_typed ho k e.symm
        obtain ⟨inner, h2⟩ := Kd.R_own hst.1
        obtain ⟨c2, h3⟩ := own_typed h2 k hk
        rw [h1] at h3
        injection h3 with h3
        injection h3 with _ h3
        exact absurd h3 (by decide)
      · show es.findIdx _ = j
        rw [List.findIdx_eq hlt]
        refine ⟨by simpa [hq2] using hk, fun i hi => ?_⟩
        have := List.pairwise_iff_getElem.1 ha i j (by omega) hlt hi
        rw [hq2] at this
        have h4 : (es[i]'(by omega)).2.ownBlock ≠ some k := fun e => this k e hk
        simpa using h4

set_option maxHeartbeats 4000000 in
set_option maxRecDepth 100000 in
theorem start_calls (a0 a1 : Int) (A2 : Option Addr) (c2 : Nat) (l2 : List Int) (v3 v4 v5 v6 : Value) (o3 : v3.oneCell' = true) (o4 : v4.oneCell' = true) (o5 : v5.oneCell' = true) (o6 : v6.oneCell' = true) (w : World) (hr : Kd.C (Kd.int .i64) w A2 l2.length l2) (hl : l2.length ≤ 1000000) :
    Calls Try.prog 17 #[.agg #[.int .i64 a0, .int .i64 a1, .slice A2 l2.length c2, v3, v4, v5, v6]] w fun e w' => ∃ v0_ : Value, e = .returned v0_ ∧ Kd.S k48 48 w' w.heap.size (fun _ => True) v0_ (onceC cmpAt (l2.map fun s => ⟨s, []⟩)) ∧ Below w.heap.size w w' := by
  have HR := Aside0.mk hr
  have HL := Aside0.mk hl
  clear hr hl
  go_enter Try.func17, Try.ntmps17
  go_wp2
  go_loopg [3, 9] l2.length (fun gq v3 v9 w' => ∃ (i : Nat) (es : List (TAt × Value)), v9 = .int .i64 (i : Int) ∧ Aside0 (i ≤ l2.length ∧ l2.length - i ≤ gq) ∧ Aside0 (es = (l2.take i).map fun s => (⟨s, []⟩, .slice none 0 0)) ∧ Aside0 (w'.ownsRow (w.heap.size + 1) 48 2 v3 es.length (es.flatMap encE)) ∧ Aside0 (v3 = .slice none 0 0 ∨ es ≠ []) ∧ Aside0 (Below w.heap.size w w' ∧ w.heap.size + 1 ≤ w'.heap.size))
  case atStart => exact ⟨0, [], by simp, ⟨by omega, by omega⟩, ⟨by simp⟩, ⟨World.ownsRow_nil _ _ _ _⟩, ⟨.inl rfl⟩, ⟨by repeat (first | exact Below.refl _ _ | apply below_alloc), by simp⟩⟩
  case round =>
    obtain ⟨i, es, rfl, Hi, He, Ho, Hv, Hb⟩ := hrel
    by_cases hlt : i < l2.length
    · have d1 : (i < l2.length) = True := eq_true hlt
      have HRr := Kd.C_below HR.out Hb.out.1
      obtain ⟨ad, e, hc⟩ := Kd.at_int HRr (i : Int) (by omega) (by omega)
      have e0 := e
      subst e0
      have HR2 := Aside0.mk HRr
      clear HRr e
      rw [Int.toNat_natCast] at hc
      have hrd : Aside0 (l2[i]? = some (rd l2 (i : Int))) := ⟨by rw [List.getElem?_eq_getElem hlt]; show some _ = some (l2.getD (i : Int).toNat 0); rw [Int.toNat_natCast, List.getD_eq_getElem?_getD, List.getElem?_eq_getElem hlt]; rfl⟩
      generalize rd l2 (i : Int) = s at hc hrd
      have HI := Aside0.mk hlt
      have t1 := eq_true (show (i : Int) < (l2.length : Int) by omega)
      clear hlt
      obtain ⟨i0, hi, hz0, hz1, hz2⟩ := info_parts infoAt
      go_wp2_with (at_builtin; go_loud (refine wpList_append_own _ rfl _ _ 33 rfl (w.heap.size + 1) 48 i0 (.agg #[.int .i64 0, .slice none 0 0]) 2 32 Try.underlying33 hi hz0 hz1 hz2 rfl (by decide) _ es.length (es.flatMap encE) rfl (Ho.out.alloc _) ⟨wr.heap.size, 0, none⟩ 1 1 [.int .i64 s, .slice none 0 0] rfl rfl ?qc2 ?qc3 ?qc4 ?qc5 ?qc6 ?_))
      case qc2 =>
        intro j u hj
        have h := blk_newAt (w := wr) (n := wr.heap.size) (.cells #[.int .i64 s, .slice none 0 0] 48) rfl
        match j with
        | 0 => simp at hj; subst hj; exact (blk_cell h 0).trans rfl
        | 1 => simp at hj; subst hj; exact (blk_cell h 1).trans rfl
        | j + 2 => simp at hj
      case qc3 =>
        intro u hu
        simp at hu
        rcases hu with rfl | rfl <;> rfl
      case qc4 => have h1 := HL.out; have h2 := He.out; have h3 := Hi.out.1; subst h2; simp; unfold maxLen; omega
      case qc5 => have h1 := HL.out; have h2 := He.out; have h3 := Hi.out.1; subst h2; simp; omega
      case qc6 => have := Hb.out.2; simp; omega
      intro v' w1 hown hgrow hnil
      go_wp2
      go_roundg (l2.length - (i + 1))
      case measure => have := Hi.out; have := HI.out; omega
      case rel =>
        have h1 := HL.out
        have h3 := HI.out
        refine ⟨i + 1, es ++ [(⟨s, []⟩, .slice none 0 0)], by rw [show wrap64 ((i : Int) + 1) = ((i + 1 : Nat) : Int) by unfold wrap64; omega], ⟨h3, Nat.le_refl _⟩, ⟨by rw [He.out, List.take_add_one, hrd.out]; simp⟩, ⟨by simpa [encE] using hown⟩, ⟨.inr (by simp)⟩, ⟨?_, ?_⟩⟩
        · have b1 : Below w.heap.size w (wr.alloc (.cells #[.int .i64 s, .slice none 0 0] 48)) := below_alloc Hb.out.1 _
          exact below_gb b1 hgrow (fun k hk => by have := (Ho.out.lt k hk).1; omega)
        · have h7 := hgrow.size; have h8 := Hb.out.2; rw [size_alloc] at h7; omega
    · have d1 : (i < l2.length) = False := eq_false hlt
      have hi : i = l2.length := by have := Hi.out; omega
      have h2 := He.out
      rw [hi, List.take_length] at h2
      have He2 := Aside0.mk h2
      have hel : es.length ≤ 1000000000 := by have := HL.out; rw [h2]; simp; omega
      have Hel := Aside0.mk hel
      clear hlt hi h2 hel
      have hrow : Aside0 (AtRow wr (w.heap.size + 1) u3 es) := ⟨Ho.out, fun p hp => by
        rw [He2.out] at hp
        obtain ⟨s, _, rfl⟩ := List.mem_map.1 hp
        exact ⟨Kd.R_nil _ _ _ _ _, by simp⟩, by
        rw [He2.out, List.pairwise_map]
        exact List.pairwise_of_forall (fun a b k hk => by simp [Value.ownBlock] at hk)⟩
      go_wp2_with (go_at_call 33; go_loud (refine (once_calls _ (w.heap.size + 1) _ es Hv.out Hel.out hrow.out).mono ?_; rintro e w' ⟨v', es', rfl, hm, hme, hpl, hst, how, hgw⟩; have HM := Aside0.mk hm; have HP := Aside0.mk hpl; have HST := Aside0.mk hst; have HOW := Aside0.mk how; have HG := Aside0.mk hgw; clear hm hme hpl hst how hgw))
      go_ret
      have hb2 : Below w.heap.size w w' := below_gb Hb.out.1 HG.out (fun k hk => by have := (Ho.out.lt k hk).1; omega)
      refine ⟨v', rfl, ?_, hb2⟩
      have hp := pack_S (base := w.heap.size) (own_mono HOW.out (by have := Hb.out.2; omega)) (fun p hp => ⟨Kd.R_lower (HST.out p hp).1 (by omega), (HST.out p hp).2⟩) HP.out
      rw [HM.out, He2.out, List.map_map] at hp
      exact hp
theorem runs_Start.calls (a0_0 a0_1 : Int) (A0_2 : Option Addr) (c0_2 : Nat) (l0_2 : List Int) (A0_3 : Option Addr) (c0_3 : Nat) (l0_3 : List Int) (A0_4 : Option Addr) (c0_4 : Nat) (l0_4 : List TOpen) (A0_5 : Option Addr) (c0_5 : Nat) (l0_5 : List TClose) (A0_6 : Option Addr) (c0_6 : Nat) (l0_6 : List TInner) (r : List TAt) (w : World)
    (hr0_2 : Kd.C (Kd.int .i64) w A0_2 l0_2.length l0_2) (hc0_2 : l0_2.length ≤ c0_2) (hr0_3 : Kd.C (Kd.int .i64) w A0_3 l0_3.length l0_3) (hc0_3 : l0_3.length ≤ c0_3) (hr0_4 : Kd.C k52 w A0_4 l0_4.length l0_4) (hc0_4 : l0_4.length ≤ c0_4) (hr0_5 : Kd.C k54 w A0_5 l0_5.length l0_5) (hc0_5 : l0_5.length ≤ c0_5) (hr0_6 : Kd.C k56 w A0_6 l0_6.length l0_6) (hc0_6 : l0_6.length ≤ c0_6)
    (h : runs_Start.f a0_0 a0_1 l0_2 l0_3 l0_4 l0_5 l0_6 = some r) :
    Calls Try.prog 17 #[.agg #[.int .i64 a0_0, .int .i64 a0_1, .slice A0_2 l0_2.length c0_2, .slice A0_3 l0_3.length c0_3, .slice A0_4 l0_4.length c0_4, .slice A0_5 l0_5.length c0_5, .slice A0_6 l0_6.length c0_6]] w fun e w' => ∃ v0_ : Value, e = .returned v0_ ∧ Kd.S k48 48 w' w.heap.size (fun _ => True) v0_ r ∧ Below w.heap.size w w' := by
  unfold runs_Start.f at h
  split at h
  · rename_i hl
    cases h
    exact start_calls a0_0 a0_1 A0_2 c0_2 l0_2 _ _ _ _ rfl rfl rfl rfl w hr0_2 hl
  · cases h
end Go.Proofs.Ytjkhdldgmkkhjaa.P
