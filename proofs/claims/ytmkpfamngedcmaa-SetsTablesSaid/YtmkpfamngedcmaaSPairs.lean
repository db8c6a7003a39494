/- sets.Pairs: pairs in order, each once, in memory that nobody else writes. -/
import Derived.Test.YtmkpfamngedcmaaGPair
set_option linter.unusedVariables false
set_option linter.unusedSimpArgs false
set_option linter.unnecessarySimpa false
namespace Go.Proofs.Ytmkpfamngedcmaa.P
open Go.RowKit Go.Proofs.YtmkpfamngedcmaaW.PrintWords Go.Proofs.YtmkpfamngedcmaaW.PrintLast Go.Proofs.YtmkpfamngedcmaaW.PrintMore Go.Proofs.Ytmkpfamngedcmaa.M
open Go.Sort Go.Shelf

theorem flat_pairs : ∀ (es : List TPair) (inner : List Value), inner.length = es.length * 2 → (∀ j p, es[j]? = some p → (inner.drop (j * 2)).take 2 = encP p) → inner = es.flatMap encP
  | [], inner, h, _ => by simpa using h
  | p :: es, inner, h, hj => by
    have h0 := hj 0 p rfl
    rw [Nat.zero_mul, List.drop_zero] at h0
    have ih := flat_pairs es (inner.drop 2) (by rw [List.length_drop, h, List.length_cons]; omega) (fun j q hq => by
      have := hj (j + 1) q (by simpa using hq)
      rw [List.drop_drop]
      rw [show (j + 1) * 2 = 2 + j * 2 by omega] at this
      exact this)
    rw [List.flatMap_cons, ← ih, ← h0, List.take_append_drop]
theorem pairs_R {w : World} {base : Nat} {v : Value} {es : List TPair} (h : PairRow w base v es) : k27.R 27 w base (fun k_ => base ≤ k_) v es := by
  refine ⟨fun k hk => own_base h k hk, es.flatMap encP, h, flat_len hkP es, fun j p hj => ?_⟩
  obtain ⟨hlt, hq⟩ := List.getElem?_eq_some_iff.1 hj
  have hcells : ((es.flatMap encP).drop (j * 2)).take 2 = [.int .i64 p.f0, .int .i64 p.f1] := by
    have h1 := flat_get hkP es j hlt (.int .i64 p.f0) (.int .i64 p.f1) (by rw [hq]; rfl)
    apply List.ext_getElem?
    intro t
    rw [List.getElem?_take, List.getElem?_drop]
    match t with
    | 0 => simpa using h1.1
    | 1 => simpa using h1.2
    | t + 2 => rw [if_neg (by omega)]; rfl
  show k27.M w base _ p (((es.flatMap encP).drop (j * 2)).take 2)
  rw [hcells]
  exact k27_mkM w base _ p
theorem R_pairs {w : World} {base : Nat} {ok : Nat → Prop} {v : Value} {es : List TPair} (h : k27.R 27 w base ok v es) : PairRow w base v es := by
  obtain ⟨_, inner, ho, hl, hr⟩ := h
  rw [flat_pairs es inner hl (fun j p hj => k27_openM (hr j p hj))] at ho
  exact ho
theorem row_nil {w : World} {base : Nat} {v : Value} {es : List TPair} (h : PairRow w base v es) : (v = .slice none 0 0 ∧ es = []) ∨ ∃ g cap, v = .slice (some ⟨g, 0, none⟩) es.length cap := by
  rcases h.2 with ⟨h1, h2⟩ | ⟨g, cap, cur, h1, _⟩
  · exact .inl ⟨h1, List.length_eq_zero_iff.1 h2⟩
  · exact .inr ⟨g, cap, h1⟩

set_option maxHeartbeats 2000000 in
set_option maxRecDepth 100000 in
theorem clone_pair (A : Option Addr) (c : Nat) (xs : List TPair) (w : World) (hr : Kd.C k27 w A xs.length xs) (hl : xs.length ≤ 1000000000) :
    Calls Try.prog 43 #[.slice A xs.length c] w fun e w' => ∃ v' : Value, e = .returned v' ∧ PairRow w' w.heap.size v' xs ∧ Below w.heap.size w w' := by
  have q22 : ∀ (w : World) (a : Option Addr) (n c n' c' : Nat), (binOp .eql 24 (.slice a n c) (.slice none n' c')).run Try.prog w = .ok (.bool a.isNone) w := fun w a n c n' c' => Lib.run_eql_slice_nil w _ _ a n c n' c' Try.underlying24
  cases A with
  | none =>
    have hx : xs = [] := by
      rcases Nat.eq_zero_or_pos xs.length with h | h
      · exact List.length_eq_zero_iff.1 h
      · obtain ⟨ad, e, _⟩ := hr.2.2 h
        cases e
    subst hx
    clear hr hl
    go_enter Try.func43, Try.ntmps43
    go_wp2
    go_ret
    exact ⟨_, rfl, World.ownsRow_nil _ _ _ _, Below.refl _ _⟩
  | some ad =>
    have HR := Aside0.mk hr
    have HL := Aside0.mk hl
    clear hr hl
    go_enter Try.func43, Try.ntmps43
    go_wp2_with (at_builtin; go_loud (refine Kd.R_append_rows k27 (Rr := k27.K w) (w0 := w) w.heap.size rfl (.tmp 5) (.tmp 6) 24 27 _ 16 rfl Try.underlying24 info27 rfl (by decide) (by decide) _ [] xs (some ad) xs.length c (fun k_ => w.heap.size ≤ k_) (fun _ => False) rfl rfl (pairs_R (es := []) (World.ownsRow_made w #[] 0 (Nat.le_refl _) (Nat.zero_le _) rfl)) ?qr (fun x cs h => by obtain rfl := k27_open h; exact k27_mkM _ _ _ x) (fun _ h => h.elim) (fun k hk => by rw [size_alloc] at hk; omega) (below_alloc (Below.refl _ _) _) ?qb ?ql ?_))
    case qr => exact (Kd.C_below HR.out (below_alloc (Below.refl _ _) _) : Kd.C k27 _ _ _ _)
    case qb => rw [size_alloc]; omega
    case ql => have := HL.out; simp; omega
    intro v1 w1 hr1 hb1 hg1 hat1
    go_wp2
    go_ret
    exact ⟨v1, rfl, R_pairs hr1, hb1⟩

set_option maxHeartbeats 1000000 in
theorem clip_pair (A : Option Addr) (n c : Nat) (w : World) (h : n ≤ c) (hc : c ≤ maxLen) :
    Calls Try.prog 46 #[.slice A n c] w fun e w' => e = .returned (.slice A n n) ∧ w' = w := by
  have t1 := eq_true (show (n : Int) ≤ (c : Int) by omega)
  have t2 := eq_true h
  have t3 := eq_true (show (0 : Int) ≤ (n : Int) by omega)
  clear h hc
  cases A with
  | none =>
    go_enter Try.func46, Try.ntmps46
    go_wp2
    go_ret
    exact ⟨rfl, rfl⟩
  | some ad =>
    go_enter Try.func46, Try.ntmps46
    go_wp2
    go_ret
    exact ⟨rfl, rfl⟩

theorem sort_pairV (w : World) (base : Nat) (v : Value) (es : List TPair) (hl : es.length ≤ 1000000000) (ho : PairRow w base v es) :
    Calls Try.prog 44 #[v, .func (.func 45) #[] #[]] w fun e w' => e = .returned (.tuple #[]) ∧
      ∃ es', es'.Perm es ∧ es'.Pairwise (fun p q => ¬ cmpPair q p < 0) ∧ PairRow w' base v es' ∧ w.grownBy w' v.ownBlock := by
  rcases row_nil ho with ⟨rfl, rfl⟩ | ⟨g, cap, rfl⟩
  · refine (AnyF.slices_SortFunc_none Try.sortPair none 0 _ _).mono ?_
    rintro e w' ⟨rfl, rfl⟩
    exact ⟨rfl, [], .nil, .nil, ho, gb_refl _ _⟩
  · exact sort_pair w base g es.length cap es rfl hl ho
set_option maxHeartbeats 1000000 in
theorem compact_pair_nil (w : World) :
    Calls Try.prog 47 #[.slice none 0 0] w fun e w' => e = .returned (.slice none 0 0) ∧ w' = w := by
  go_enter Try.func47, Try.ntmps47
  go_wp2
  go_ret
  exact ⟨rfl, rfl⟩
theorem compact_pairV (w : World) (base : Nat) (v : Value) (es : List TPair) (hl : es.length ≤ 1000000000) (ho : PairRow w base v es) :
    Calls Try.prog 47 #[v] w fun e w' => ∃ A c, e = .returned (.slice A (dd eqP es).length c) ∧ (dd eqP es).length ≤ c ∧ c ≤ maxLen ∧
      PairRow w' base (.slice A (dd eqP es).length c) (dd eqP es) ∧ w.grownBy w' v.ownBlock := by
  rcases row_nil ho with ⟨rfl, rfl⟩ | ⟨g, cap, rfl⟩
  · refine (compact_pair_nil w).mono ?_
    rintro e w' ⟨rfl, rfl⟩
    exact ⟨none, 0, rfl, Nat.le_refl _, Nat.zero_le _, ho, gb_refl _ _⟩
  · refine (compact_pair w base g es.length cap es rfl hl ho).mono ?_
    rintro e w' ⟨rfl, hr, hg⟩
    obtain ⟨_, _, _, _, _, h1, h2, _⟩ := row_block hr
    exact ⟨_, _, rfl, h1, h2, hr, hg⟩
theorem dd_pair {es es' : List TPair} (hp : es'.Perm es) (hs : es'.Pairwise (fun p q => ¬ cmpPair q p < 0)) : dd eqP es' = onceC cmpPair es := by
  rw [show (eqP : TPair → TPair → Bool) = fun x y => decide (cmpPair x y = 0) from funext fun x => funext fun y => eqP_iff x y]
  exact totalPair.dd_once hs (fun x => hp.mem_iff)

def sets_Pairs.f (l0 : List TPair) : Option (List TPair) := if l0.length ≤ 1000000000 then some (onceC cmpPair l0) else none
set_option maxHeartbeats 4000000 in
set_option maxRecDepth 100000 in
/-- in memory of its own, a row that may be written within its length -/
theorem pairs_own (A : Option Addr) (c : Nat) (l : List TPair) (w : World) (hr : Kd.C k27 w A l.length l) (hl : l.length ≤ 1000000000) :
    Calls Try.prog 16 #[.slice A l.length c] w fun e w' => ∃ A' c', e = .returned (.slice A' (onceC cmpPair l).length (onceC cmpPair l).length) ∧ PairRow w' w.heap.size (.slice A' (onceC cmpPair l).length c') (onceC cmpPair l) ∧ Below w.heap.size w w' := by
  have HR := Aside0.mk hr
  have HL := Aside0.mk hl
  clear hr hl
  go_enter Try.func16, Try.ntmps16
  go_wp2_with (first
    | (go_at_call 43; go_loud (refine (clone_pair A c l w HR.out HL.out).mono ?_; rintro e w1 ⟨v1, rfl, hr1, hb1⟩; have Hr1 := Aside0.mk hr1; have Hb1 := Aside0.mk hb1; clear hr1 hb1))
    | (go_at_call 44; go_loud (refine (sort_pairV w1 w.heap.size v1 l HL.out Hr1.out).mono ?_; rintro e w2 ⟨rfl, es2, hp2, hs2, hr2, hg2⟩; have Hp2 := Aside0.mk hp2; have Hs2 := Aside0.mk hs2; have Hr2 := Aside0.mk hr2; have Hg2 := Aside0.mk hg2; clear hp2 hs2 hr2 hg2))
    | (go_at_call 47; go_loud (refine (compact_pairV w2 w.heap.size v1 es2 (by rw [Hp2.out.length_eq]; exact HL.out) Hr2.out).mono ?_; rintro e w3 ⟨A3, c3, rfl, hn3, hc3, hr3, hg3⟩; have Hn3 := Aside0.mk (And.intro hn3 hc3); have Hr3 := Aside0.mk hr3; have Hg3 := Aside0.mk hg3; clear hn3 hc3 hr3 hg3))
    | (go_at_call 46; go_loud (refine (clip_pair A3 _ c3 w3 Hn3.out.1 Hn3.out.2).mono ?_; rintro e w4 ⟨rfl, rfl⟩)))
  go_ret
  have e := dd_pair Hp2.out (Hs2.out.imp (fun {a b} h => by omega))
  have hb : ∀ k, v1.ownBlock = some k → w.heap.size ≤ k := fun k hk => own_base Hr1.out k hk
  exact ⟨A3, c3, by rw [e]; rfl, by have h := Hr3.out; rw [e] at h; exact h, below_gb (below_gb Hb1.out Hg2.out hb) Hg3.out hb⟩
theorem sets_Pairs.calls (A0 : Option Addr) (c0 : Nat) (l0 : List TPair) (r : List TPair) (w : World) (hr0 : Kd.C k27 w A0 l0.length l0) (hc0 : l0.length ≤ c0) (h : sets_Pairs.f l0 = some r) :
    Calls Try.prog 16 #[.slice A0 l0.length c0] w fun e w' => ∃ v0_ : Value, e = .returned v0_ ∧ Kd.V k27 27 w' w.heap.size (fun k_ => w.heap.size ≤ k_) v0_ r ∧ Below w.heap.size w w' := by
  unfold sets_Pairs.f at h
  split at h
  case isFalse => cases h
  rename_i hl
  obtain rfl := Option.some.inj h
  refine (pairs_own A0 c0 l0 w hr0 hl).mono ?_
  rintro e w' ⟨A', c', rfl, hr, hb⟩
  have hR := pairs_R hr
  exact ⟨_, rfl, Kd.V_mk (Nat.le_refl _) (Kd.R_F hR), hb⟩
end Go.Proofs.Ytmkpfamngedcmaa.P
