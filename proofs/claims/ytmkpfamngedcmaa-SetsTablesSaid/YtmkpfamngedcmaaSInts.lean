/- sets.Ints: numbers rising, each once, in memory that nobody else writes. -/
import Derived.Test.YtmkpfamngedcmaaSRefInts
import Derived.Test.YtmkpfamngedcmaaLInts
set_option linter.unusedVariables false
set_option linter.unusedSimpArgs false
set_option linter.unnecessarySimpa false
namespace Go.Proofs.Ytmkpfamngedcmaa.P
open Go.RowKit Go.Proofs.YtmkpfamngedcmaaW.PrintWords Go.Proofs.YtmkpfamngedcmaaW.PrintLast Go.Proofs.YtmkpfamngedcmaaW.PrintMore Go.Proofs.Ytmkpfamngedcmaa.M

set_option maxHeartbeats 2000000 in
set_option maxRecDepth 100000 in
theorem clone_int_calls (A : Option Addr) (c : Nat) (xs : List Int) (w : World) (hr : Kd.C (Kd.int .i64) w A xs.length xs) (hl : xs.length ≤ 1000000000) :
    Calls Try.prog 39 #[.slice A xs.length c] w fun e w' => ∃ v' : Value, e = .returned v' ∧ (Kd.int .i64).R 3 w' w.heap.size (fun _ => True) v' xs ∧ Below w.heap.size w w' := by
  have q22 : ∀ (w : World) (a : Option Addr) (n c n' c' : Nat), (binOp .eql 22 (.slice a n c) (.slice none n' c')).run Try.prog w = .ok (.bool a.isNone) w := fun w a n c n' c' => Lib.run_eql_slice_nil w _ _ a n c n' c' Try.underlying22
  cases A with
  | none =>
    have hx : xs = [] := by
      rcases Nat.eq_zero_or_pos xs.length with h | h
      · exact List.length_eq_zero_iff.1 h
      · obtain ⟨ad, e, _⟩ := hr.2.2 h
        cases e
    subst hx
    clear hr hl
    go_enter Try.func39, Try.ntmps39
    go_wp2
    go_ret
    exact ⟨_, rfl, Kd.R_nil _ _ _ _ _, Below.refl _ _⟩
  | some ad =>
    have HR := Aside0.mk hr
    have HL := Aside0.mk hl
    clear hr hl
    go_enter Try.func39, Try.ntmps39
    go_wp2_with (at_builtin; go_loud (refine Kd.R_append_row (Value.int .i64) 0 (w0 := w) w.heap.size rfl (.tmp 5) (.tmp 6) 22 3 (.int .i64 0) 8 rfl Try.underlying22 infoInt rfl (by decide) _ [] xs (some ad) xs.length c (fun _ => True) rfl rfl (fun _ _ => trivial) (Kd.R_of_own (World.ownsRow_made w #[] 0 (Nat.le_refl _) (Nat.zero_le _) rfl) (fun _ _ => trivial)) (Kd.C_below HR.out (below_alloc (Below.refl _ _) _)) (below_alloc (Below.refl _ _) _) ?qb ?ql ?_))
    case qb => rw [size_alloc]; omega
    case ql => have := HL.out; simp; omega
    intro v1 w1 hr1 hb1 hg1 hat1
    go_wp2
    go_ret
    exact ⟨v1, rfl, hr1, hb1⟩


open Go.Sort Go.Shelf Go.Lib
theorem holds1 {w : World} {base g n cap : Nat} {e : TypeId} {d : Array Int} (hd : d.size = n) (h : w.ownsRow base e 1 (.slice (some ⟨g, 0, none⟩) n cap) n (d.toList.map (Value.int .i64))) : Holds (Value.int .i64) w g 0 d := by
  rcases h.2 with ⟨h1, _⟩ | ⟨g', cap', cur, h1, _, hg, _, _, hsz, htake⟩
  · cases h1
  · cases h1
    intro j hj
    have hcur : cur[j]? = some (.int .i64 d[j]!) := by
      have h3 : (cur.toList.take (n * 1))[j]? = (d.toList.map (Value.int .i64))[j]? := by rw [htake]
      rw [List.getElem?_take_of_lt (by omega), List.getElem?_map, Array.getElem?_toList, Array.getElem?_toList, Array.getElem?_eq_getElem hj] at h3
      rw [h3, getElem!_pos d j hj]
      rfl
    constructor
    · simp [World.cell?, hg, hcur]
    · simp [World.frozen?, hg]
theorem own_put1 {w : World} {base g n cap : Nat} {e : TypeId} {xs : List Value} {D : Array Int} (hD : D.size = n) (m : Nat) (os : Array Obj) (h : w.ownsRow base e 1 (.slice (some ⟨g, 0, none⟩) n cap) n xs) :
    (grow (putRow (Value.int .i64) (Sort.ahead w m) g 0 D) os).ownsRow base e 1 (.slice (some ⟨g, 0, none⟩) n cap) n (D.toList.map (Value.int .i64)) ∧ w.grownBy (grow (putRow (Value.int .i64) (Sort.ahead w m) g 0 D) os) (some g) := by
  have hsize : (putRow (Value.int .i64) (Sort.ahead w m) g 0 D).heap.size = w.heap.size := by simp [putRow, mapBlock, Sort.ahead]
  have hheap : ∀ i, i < w.heap.size → (grow (putRow (Value.int .i64) (Sort.ahead w m) g 0 D) os).heap[i]? = (putRow (Value.int .i64) (Sort.ahead w m) g 0 D).heap[i]? := fun i hi => by
    show ((putRow (Value.int .i64) (Sort.ahead w m) g 0 D).heap ++ os)[i]? = _
    rw [Array.getElem?_append_left (by rw [hsize]; exact hi)]
  have hmod : ∀ i, (putRow (Value.int .i64) (Sort.ahead w m) g 0 D).heap[i]? = if g = i then (w.heap[i]?).map (onCells (putCells (Value.int .i64) 0 D)) else w.heap[i]? := fun i => by
    show (w.heap.modify g (onCells (putCells (Value.int .i64) 0 D)))[i]? = _
    rw [Array.getElem?_modify]
  rcases h.2 with ⟨h1, _⟩ | ⟨g', cap', cur, h1, hb, hg, hnc, hcm, hsz, htake⟩
  · cases h1
  · cases h1
    have hlt : g < w.heap.size := (Array.getElem?_eq_some_iff.1 hg).1
    refine ⟨⟨by simp [hD], .inr ⟨g, cap, putCells (Value.int .i64) 0 D cur, rfl, hb, ?_, hnc, hcm, ?_, ?_⟩⟩, ⟨rfl, rfl, rfl, ?_, ?_⟩⟩
    · rw [hheap g hlt, hmod g, if_pos rfl, hg]; rfl
    · simp [putCells, hsz]
    · apply List.ext_getElem?
      intro t
      by_cases ht : t < n
      · rw [List.getElem?_take_of_lt (by omega)]
        have h1 : t < cur.size := by omega
        have h2 : t < D.size := by omega
        rw [Array.getElem?_toList, List.getElem?_map, Array.getElem?_toList, Array.getElem?_eq_getElem h2]
        simp only [putCells, Array.getElem?_mapIdx, Array.getElem?_eq_getElem h1, Option.map_some]
        rw [if_pos ⟨Nat.zero_le _, by omega⟩]
        simp only [Nat.sub_zero]
        rw [getElem!_pos _ t h2]
      · rw [List.getElem?_eq_none (by simp; omega), List.getElem?_eq_none (by simp [hD]; omega)]
    · show _ ≤ ((putRow (Value.int .i64) (Sort.ahead w m) g 0 D).heap ++ os).size
      simp [hsize]
    · intro i hi hne
      rw [hheap i hi, hmod i, if_neg (fun e => hne (by rw [e]))]
theorem R_ints {w : World} {base : Nat} {ok : Nat → Prop} {v : Value} {xs : List Int} (h : Kd.R (Kd.int .i64) 3 w base ok v xs) : w.ownsRow base 3 1 v xs.length (xs.map (Value.int .i64)) := by
  obtain ⟨_, inner, ho, hl, hr⟩ := h
  have e : inner = xs.map (Value.int .i64) := by
    apply List.ext_getElem?
    intro t
    by_cases ht : t < xs.length
    · have := hr t _ (List.getElem?_eq_getElem ht)
      have h2 : (inner.drop (t * 1)).take 1 = [.int .i64 xs[t]] := this
      have h3 := congrArg (fun l : List Value => l[0]?) h2
      simp only [List.getElem?_take, List.getElem?_drop] at h3
      rw [List.getElem?_map, List.getElem?_eq_getElem ht]
      simpa using h3
    · rw [List.getElem?_eq_none (by have : inner.length = xs.length * 1 := hl; omega), List.getElem?_eq_none (by simp; omega)]
  rw [e] at ho
  exact ho
theorem ints_R {w : World} {base : Nat} {v : Value} {xs : List Int} (h : w.ownsRow base 3 1 v xs.length (xs.map (Value.int .i64))) : Kd.R (Kd.int .i64) 3 w base (fun k => base ≤ k) v xs :=
  Kd.R_of_own h (fun k hk => own_base h k hk)
theorem compact_once : ∀ (d : List Int) (m : Nat), m ≤ d.length → compactUpTo d.toArray m = dd (fun x y => decide (cmpInt x y = 0)) (d.take m)
  | d, 0, _ => by simp [compactUpTo, dd]
  | d, m + 1, h => by
    rw [compactUpTo_succ, compact_once d m (by omega)]
    have e : ∀ j, j < d.length → d.toArray[j]! = d[j]! := fun j hj => by simp
    by_cases h0 : m = 0
    · subst h0
      cases d with
      | nil => simp at h
      | cons x d => simp [keeps, dd, ddF]
    · rw [dd_next _ d m (by omega) (by omega)]
      congr 1
      have e1 : d.toArray[m]! = d[m]'(by omega) := getElem!_pos d.toArray m (by simp; omega)
      have e2 : d.toArray[m - 1]! = d[m - 1]'(by omega) := getElem!_pos d.toArray (m - 1) (by simp; omega)
      unfold keeps
      rw [e1, e2]
      by_cases c : d[m]'(by omega) = d[m - 1]'(by omega)
      · rw [if_neg (by simp [h0, c]), if_pos (by simp [cmpInt_zero, c])]
      · rw [if_pos (by simp [c]), if_neg (by simp [cmpInt_zero, c])]

def sets_Ints.f (l0 : List Int) : Option (List Int) := if l0.length ≤ 1000000000 then some (onceC cmpInt l0) else none
theorem sort_ints (w : World) (base : Nat) (v : Value) (es : List Int) (hl : es.length ≤ 1000000000) (ho : w.ownsRow base 3 1 v es.length (es.map (Value.int .i64))) :
    Calls Try.prog 40 #[v] w fun e w' => e = .returned (.tuple #[]) ∧ w'.ownsRow base 3 1 v es.length ((es.mergeSort fun x y => decide (x ≤ y)).map (Value.int .i64)) ∧ w.grownBy w' v.ownBlock := by
  rcases ho.2 with ⟨h1, h2⟩ | ⟨g, cap, cur, h1, _, hg, _⟩
  · subst h1
    have he := List.length_eq_zero_iff.1 h2
    subst he
    refine (AnyM.slices_Sort_int_none Try.sortInt none 0 w).mono ?_
    rintro e w' ⟨rfl, rfl⟩
    exact ⟨rfl, by simpa using ho, gb_refl _ _⟩
  · subst h1
    have hH : Holds (Value.int .i64) w g 0 es.toArray := holds1 (n := es.length) (cap := cap) (base := base) (e := 3) (by simp) (by simpa using ho)
    refine (AnyM.slices_Sort_int Try.sortInt g 0 cap es w hH (Array.getElem?_eq_some_iff.1 hg).1 (by omega)).mono ?_
    rintro e w' ⟨rfl, n, os, rfl⟩
    obtain ⟨o1, o2⟩ := own_put1 (D := (es.mergeSort fun x y => decide (x ≤ y)).toArray) (by simp) n os ho
    exact ⟨rfl, by simpa using o1, o2⟩
set_option maxHeartbeats 1000000 in
theorem compact_ints_nil (w : World) :
    Calls Try.prog 42 #[.slice none 0 0] w fun e w' => e = .returned (.slice none 0 0) ∧ w' = w := by
  go_enter Try.func42, Try.ntmps42
  go_wp2
  go_ret
  exact ⟨rfl, rfl⟩

theorem compact_ints (w : World) (base : Nat) (v : Value) (es : List Int) (hl : es.length ≤ 1000000000) (ho : w.ownsRow base 3 1 v es.length (es.map (Value.int .i64))) :
    Calls Try.prog 42 #[v] w fun e w' => ∃ A c, e = .returned (.slice A (dd (fun x y => decide (cmpInt x y = 0)) es).length c) ∧ (dd (fun x y => decide (cmpInt x y = 0)) es).length ≤ c ∧ c ≤ maxLen ∧
      Kd.R (Kd.int .i64) 3 w' base (fun k => base ≤ k) (.slice A (dd (fun x y => decide (cmpInt x y = 0)) es).length c) (dd (fun x y => decide (cmpInt x y = 0)) es) ∧ w.grownBy w' v.ownBlock := by
  rcases ho.2 with ⟨h1, h2⟩ | ⟨g, cap, cur, h1, hb, hg, hnc, hcm, _⟩
  · subst h1
    have he := List.length_eq_zero_iff.1 h2
    subst he
    refine (compact_ints_nil w).mono ?_
    rintro e w' ⟨rfl, rfl⟩
    exact ⟨none, 0, rfl, Nat.le_refl _, Nat.zero_le _, Kd.R_nil _ _ _ _ _, gb_refl _ _⟩
  · subst h1
    have hH : Holds (Value.int .i64) w g 0 es.toArray := holds1 (n := es.length) (cap := cap) (base := base) (e := 3) (by simp) (by simpa using ho)
    have hcon := AnyE.slices_Compact Try.compactInt (Value.int .i64) (fun _ => rfl) (EqlAt.intD _ _ _) (NeqAt.intD _ _ _) 0 Try.zeroValue3 g 0 cap es.toArray w hH (by simp; omega) (by simpa using hnc)
    rw [show compactUpTo es.toArray es.toArray.size = dd (fun x y => decide (cmpInt x y = 0)) es by
      rw [show es.toArray.size = es.length by simp, compact_once es es.length (Nat.le_refl _), List.take_length]] at hcon
    have hsub := (dd_sub (fun x y => decide (cmpInt x y = 0)) es).length_le
    generalize dd (fun x y => decide (cmpInt x y = 0)) es = ds at hcon hsub ⊢
    rw [show es.toArray.size = es.length by simp] at hcon
    refine hcon.mono ?_
    rintro e w' ⟨rfl, q, rfl⟩
    obtain ⟨o1, o2⟩ := own_put1 (D := (ds ++ List.replicate (es.length - ds.length) 0).toArray) (by simp; omega) q #[] ho
    rw [grow_empty] at o1 o2
    refine ⟨some ⟨g, 0, none⟩, cap, rfl, by omega, hcm, ?_, o2⟩
    have hl2 : (ds ++ List.replicate (es.length - ds.length) (0 : Int)).length = es.length := by simp; omega
    have hR := ints_R (xs := ds ++ List.replicate (es.length - ds.length) 0) (v := .slice (some ⟨g, 0, none⟩) es.length cap) (by rw [hl2]; simpa using o1)
    have hT := Kd.R_take hR (m := ds.length) (by rw [hl2]; exact hsub)
    rw [List.take_left'  rfl] at hT
    exact hT
set_option maxHeartbeats 1000000 in
theorem clip_ints (A : Option Addr) (n c : Nat) (w : World) (h : n ≤ c) (hc : c ≤ maxLen) :
    Calls Try.prog 41 #[.slice A n c] w fun e w' => e = .returned (.slice A n n) ∧ w' = w := by
  have t1 := eq_true (show (n : Int) ≤ (c : Int) by omega)
  have t2 := eq_true h
  have t3 := eq_true (show (0 : Int) ≤ (n : Int) by omega)
  clear h hc
  cases A with
  | none =>
    go_enter Try.func41, Try.ntmps41
    go_wp2
    go_ret
    exact ⟨rfl, rfl⟩
  | some ad =>
    go_enter Try.func41, Try.ntmps41
    go_wp2
    go_ret
    exact ⟨rfl, rfl⟩

theorem dd_ints {es : List Int} : dd (fun x y => decide (cmpInt x y = 0)) (es.mergeSort fun x y => decide (x ≤ y)) = onceC cmpInt es := by
  refine totalInt.dd_once ?_ (fun x => (List.mergeSort_perm es _).mem_iff)
  have h := List.pairwise_mergeSort (le := fun x y : Int => decide (x ≤ y)) (fun a b c h1 h2 => by simp only [decide_eq_true_eq] at *; omega) (fun a b => by simp only [Bool.or_eq_true, decide_eq_true_eq]; omega) es
  exact h.imp (fun {a b} hab hlt => by
    have := cmpInt_lt.1 hlt
    simp only [decide_eq_true_eq] at hab
    omega)
set_option maxHeartbeats 4000000 in
set_option maxRecDepth 100000 in
theorem ints_own (A : Option Addr) (c : Nat) (l : List Int) (w : World) (hr : Kd.C (Kd.int .i64) w A l.length l) (hl : l.length ≤ 1000000000) :
    Calls Try.prog 15 #[.slice A l.length c] w fun e w' => ∃ A' c', e = .returned (.slice A' (onceC cmpInt l).length (onceC cmpInt l).length) ∧ Kd.R (Kd.int .i64) 3 w' w.heap.size (fun k => w.heap.size ≤ k) (.slice A' (onceC cmpInt l).length c') (onceC cmpInt l) ∧ Below w.heap.size w w' := by
  have HR := Aside0.mk hr
  have HL := Aside0.mk hl
  clear hr hl
  go_enter Try.func15, Try.ntmps15
  go_wp2_with (first
    | (go_at_call 39; go_loud (refine (clone_int_calls A c l w HR.out HL.out).mono ?_; rintro e w1 ⟨v1, rfl, hr1, hb1⟩; have Hr1 := Aside0.mk (R_ints hr1); have Hb1 := Aside0.mk hb1; clear hr1 hb1))
    | (go_at_call 40; go_loud (refine (sort_ints w1 w.heap.size v1 l HL.out Hr1.out).mono ?_; rintro e w2 ⟨rfl, hr2, hg2⟩; have Hr2 := Aside0.mk hr2; have Hg2 := Aside0.mk hg2; clear hr2 hg2))
    | (go_at_call 42; go_loud (refine (compact_ints w2 w.heap.size v1 (l.mergeSort fun x y => decide (x ≤ y)) (by rw [List.length_mergeSort]; exact HL.out) (by rw [List.length_mergeSort]; exact Hr2.out)).mono ?_; rintro e w3 ⟨A3, c3, rfl, hn3, hc3, hr3, hg3⟩; rw [dd_ints] at hn3 hr3 ⊢; have Hn3 := Aside0.mk (And.intro hn3 hc3); have Hr3 := Aside0.mk hr3; have Hg3 := Aside0.mk hg3; clear hn3 hc3 hr3 hg3))
    | (go_at_call 41; go_loud (refine (clip_ints A3 _ c3 w3 Hn3.out.1 Hn3.out.2).mono ?_; rintro e w4 ⟨rfl, rfl⟩)))
  go_ret
  have hb : ∀ k, v1.ownBlock = some k → w.heap.size ≤ k := fun k hk => own_base Hr1.out k hk
  exact ⟨A3, c3, rfl, Hr3.out, below_gb (below_gb Hb1.out Hg2.out hb) Hg3.out hb⟩
theorem sets_Ints.calls (A0 : Option Addr) (c0 : Nat) (l0 : List Int) (r : List Int) (w : World) (hr0 : Kd.C (Kd.int .i64) w A0 l0.length l0) (hc0 : l0.length ≤ c0) (h : sets_Ints.f l0 = some r) :
    Calls Try.prog 15 #[.slice A0 l0.length c0] w fun e w' => ∃ v0_ : Value, e = .returned v0_ ∧ Kd.V (Kd.int .i64) 3 w' w.heap.size (fun k_ => w.heap.size ≤ k_) v0_ r ∧ Below w.heap.size w w' := by
  unfold sets_Ints.f at h
  split at h
  case isFalse => cases h
  rename_i hl
  obtain rfl := Option.some.inj h
  refine (ints_own A0 c0 l0 w hr0 hl).mono ?_
  rintro e w' ⟨A', c', rfl, hr, hb⟩
  exact ⟨_, rfl, Kd.V_mk (Nat.le_refl _) (Kd.R_F hr), hb⟩
end Go.Proofs.Ytmkpfamngedcmaa.P
