/- Rows of pairs: their order, the sort of such a row, of neighbours that are the same the first is left, a copy. -/
import Derived.Test.YtmkpfamngedcmaaMAll
import Derived.Test.YtmkpfamngedcmaaP0
import Derived.Test.YtmkpfamngedcmaaPEq0
import Derived.Test.YtmkpfamngedcmaaPCmpOrInt
import Derived.Test.YtmkpfamngedcmaaPCmpCompareInt
import Derived.Test.YtmkpfamngedcmaaLPair
import Derived.Shelf.SlSortCmp.NoneTotal
import Derived.BigQuiet
set_option linter.unusedVariables false
set_option linter.unusedSimpArgs false
set_option linter.unnecessarySimpa false
namespace Go.Proofs.Ytmkpfamngedcmaa.P
open Go.RowKit Go.Proofs.YtmkpfamngedcmaaW.PrintWords Go.Proofs.YtmkpfamngedcmaaW.PrintLast Go.Proofs.YtmkpfamngedcmaaW.PrintMore Go.Proofs.Ytmkpfamngedcmaa.M

theorem compare_f (a b : Int) : cmp_Compare_int.f a b = some (cmpInt a b) := by
  simp only [cmp_Compare_int.f, cmp_isNaN_int.f, Option.bind_some, bne_self_eq_false, Bool.false_eq_true, if_false, cmpInt]
  split
  · rfl
  · split <;> rfl
theorem or_f (a b : Int) : cmp_Or_int.f 3 [a, b] = some (orInt a b) := by
  have w1 : wrap64 1 = 1 := by unfold wrap64; omega
  have w2 : wrap64 2 = 2 := by unfold wrap64; omega
  by_cases ha : a = 0
  · by_cases hb : b = 0
    · subst ha; subst hb; simp [cmp_Or_int.f, cmp_Or_int.l0, orInt, rd, w1, w2]
    · subst ha; simp [cmp_Or_int.f, cmp_Or_int.l0, orInt, rd, hb, w1, w2]
  · simp [cmp_Or_int.f, cmp_Or_int.l0, orInt, rd, ha]
theorem reads_two {w : World} {g : Nat} {a b : Int} (h : w.heap[g]? = some (.cells #[.int .i64 a, .int .i64 b] 3 (0, 0))) : Kd.C (Kd.int .i64) w (some ⟨g, 0, none⟩) 2 [a, b] := by
  refine ⟨rfl, by omega, fun _ => ⟨⟨g, 0, none⟩, rfl, ?_⟩⟩
  intro j p hp
  have cell : ∀ i, w.cell? ⟨g, i, none⟩ = #[Value.int .i64 a, .int .i64 b][i]? := fun i => blk_cell h i
  match j with
  | 0 =>
    simp at hp
    subst hp
    refine ⟨[.int .i64 a], rfl, rfl, fun i u hu => ?_⟩
    match i with
    | 0 => simp at hu; subst hu; simpa [Addr.add] using cell 0
    | i + 1 => simp at hu
  | 1 =>
    simp at hp
    subst hp
    refine ⟨[.int .i64 b], rfl, rfl, fun i u hu => ?_⟩
    match i with
    | 0 => simp at hu; subst hu; exact (show w.cell? ⟨g, 1, none⟩ = _ from cell 1).trans rfl
    | i + 1 => simp at hu
  | j + 2 => simp at hp

theorem row_block {w : World} {base e size n cap : Nat} {ad : Addr} {xs : List Value} (h : w.ownsRow base e size (.slice (some ad) n cap) n xs) : ∃ g cur, ad = ⟨g, 0, none⟩ ∧ base ≤ g ∧ w.heap[g]? = some (.cells cur e (0, 0)) ∧ n ≤ cap ∧ cap ≤ maxLen ∧ cur.size = cap * size ∧ cur.toList.take (n * size) = xs := by
  rcases h.2 with ⟨h1, _⟩ | ⟨g, c, cur, h1, h2, h3, h4, h5, h6, h7⟩
  · cases h1
  · cases h1; exact ⟨g, cur, rfl, h2, h3, h4, h5, h6, h7⟩
open Go.Sort Go.Shelf
abbrev TPair := S27
/-- pairs in order -/
def cmpPair (x y : TPair) : Int := orInt (cmpInt x.f0 y.f0) (cmpInt x.f1 y.f1)
theorem totalPair : TotalCmp cmpPair := TotalCmp.or totalInt totalInt (fun x : TPair => x.f0) (fun x : TPair => x.f1) (fun x y h1 h2 => by cases x; cases y; simp at h1 h2; rw [h1, h2])
set_option maxHeartbeats 4000000 in
set_option maxRecDepth 100000 in
theorem orderP_calls (a s b t : Int) (w : World) :
    Calls Try.prog 45 #[.agg #[.int .i64 a, .int .i64 s], .agg #[.int .i64 b, .int .i64 t]] w fun e w' => e = .returned (.int .i64 (orInt (cmpInt a b) (cmpInt s t))) ∧ GD w w' := by
  go_enter Try.func45, Try.ntmps45
  go_wp2
  have H2 : Aside0 (((w.alloc (.cells #[.int .i64 a, .int .i64 s] 27)).alloc (.cells #[.int .i64 b, .int .i64 t] 27)).drew.heap[w.heap.size]? = some (.cells #[.int .i64 a, .int .i64 s] 27 (0, 0))) := ⟨blk_old (blk_newAt _ rfl) _⟩
  have H3 : Aside0 (((w.alloc (.cells #[.int .i64 a, .int .i64 s] 27)).alloc (.cells #[.int .i64 b, .int .i64 t] 27)).drew.heap[w.heap.size + 1]? = some (.cells #[.int .i64 b, .int .i64 t] 27 (0, 0))) := ⟨blk_newAt _ (size_alloc _ _).symm⟩
  have HG : Aside0 (GD w ((w.alloc (.cells #[.int .i64 a, .int .i64 s] 27)).alloc (.cells #[.int .i64 b, .int .i64 t] 27)).drew) := ⟨(((GD.refl w).alloc _).alloc _).drew⟩
  refine start_ (n := 13) (S := fun w' => w'.cell? ⟨w.heap.size, 0, none⟩ = some (.int .i64 a) ∧ w'.cell? ⟨w.heap.size, 1, none⟩ = some (.int .i64 s) ∧ w'.cell? ⟨w.heap.size + 1, 0, none⟩ = some (.int .i64 b) ∧ w'.cell? ⟨w.heap.size + 1, 1, none⟩ = some (.int .i64 t)) (ds := []) #[false, false, false, false, false, false, false, false, false, false, false, false, false] (by kernel_rfl) rfl rfl ⟨(blk_cell H2.out 0).trans rfl, (blk_cell H2.out 1).trans rfl, (blk_cell H3.out 0).trans rfl, (blk_cell H3.out 1).trans rfl⟩ (fun hHeld => ?_)
  generalize ((w.alloc (.cells #[.int .i64 a, .int .i64 s] 27)).alloc (.cells #[.int .i64 b, .int .i64 t] 27)).drew = wd at H2 H3 HG hHeld ⊢
  refine pure_ (i := 0) (N := (some 5)) (v := ?_) (a' := ?_) #[true, false, false, false, false, false, false, false, false, false, false, false, false] rfl rfl (by kernel_rfl) (fun _ _ _ h => h) (Or.inl ⟨by rfl, ?_⟩) ?_ ?_
  rotate_left
  · intro w'
    go_simp
    with_reducible rfl
  rotate_left
  · simp only [Act.put, List.setIfInBounds_toArray, List.set_cons_zero, List.set_cons_succ, i64_w, i32_w]
    rfl
  refine pure_ (i := 2) (N := (some 7)) (v := ?_) (a' := ?_) #[true, false, true, false, false, false, false, false, false, false, false, false, false] rfl rfl (by kernel_rfl) (fun _ _ _ h => h) (Or.inl ⟨by rfl, ?_⟩) ?_ ?_
  rotate_left
  · intro w'
    go_simp
    with_reducible rfl
  rotate_left
  · simp only [Act.put, List.setIfInBounds_toArray, List.set_cons_zero, List.set_cons_succ, i64_w, i32_w]
    rfl
  refine pure_ (i := 5) (N := (some 10)) (v := ?_) (a' := ?_) #[true, false, true, false, false, true, false, false, false, false, false, false, false] rfl rfl (by kernel_rfl) (fun _ _ _ h => h) (Or.inl ⟨by rfl, ?_⟩) ?_ ?_
  rotate_left
  · intro w'
    go_simp
    with_reducible rfl
  rotate_left
  · simp only [Act.put, List.setIfInBounds_toArray, List.set_cons_zero, List.set_cons_succ, i64_w, i32_w]
    rfl
  refine pure_ (i := 7) (N := (some 12)) (v := ?_) (a' := ?_) #[true, false, true, false, false, true, false, true, false, false, false, false, false] rfl rfl (by kernel_rfl) (fun _ _ _ h => h) (Or.inl ⟨by rfl, ?_⟩) ?_ ?_
  rotate_left
  · intro w'
    go_simp
    with_reducible rfl
  rotate_left
  · simp only [Act.put, List.setIfInBounds_toArray, List.set_cons_zero, List.set_cons_succ, i64_w, i32_w]
    rfl
  refine take_ (i := 1) (N := (some 6)) (v := ?_) (a' := ?_) #[true, true, true, false, false, true, false, true, false, false, false, false, false] rfl rfl (by kernel_rfl) (fun _ _ _ h => h) (Or.inl ⟨by rfl, ?_⟩) hHeld ?_ ?_
  rotate_left
  · intro w' hS_
    obtain ⟨s0, s1, s2, s3⟩ := hS_
    go_simp
    with_reducible rfl
  rotate_left
  · simp only [Act.put, List.setIfInBounds_toArray, List.set_cons_zero, List.set_cons_succ, i64_w, i32_w]
    rfl
  refine take_ (i := 3) (N := (some 8)) (v := ?_) (a' := ?_) #[true, true, true, true, false, true, false, true, false, false, false, false, false] rfl rfl (by kernel_rfl) (fun _ _ _ h => h) (Or.inl ⟨by rfl, ?_⟩) hHeld ?_ ?_
  rotate_left
  · intro w' hS_
    obtain ⟨s0, s1, s2, s3⟩ := hS_
    go_simp
    with_reducible rfl
  rotate_left
  · simp only [Act.put, List.setIfInBounds_toArray, List.set_cons_zero, List.set_cons_succ, i64_w, i32_w]
    rfl
  refine take_ (i := 6) (N := (some 11)) (v := ?_) (a' := ?_) #[true, true, true, true, false, true, true, true, false, false, false, false, false] rfl rfl (by kernel_rfl) (fun _ _ _ h => h) (Or.inl ⟨by rfl, ?_⟩) hHeld ?_ ?_
  rotate_left
  · intro w' hS_
    obtain ⟨s0, s1, s2, s3⟩ := hS_
    go_simp
    with_reducible rfl
  rotate_left
  · simp only [Act.put, List.setIfInBounds_toArray, List.set_cons_zero, List.set_cons_succ, i64_w, i32_w]
    rfl
  refine take_ (i := 8) (N := (some 13)) (v := ?_) (a' := ?_) #[true, true, true, true, false, true, true, true, true, false, false, false, false] rfl rfl (by kernel_rfl) (fun _ _ _ h => h) (Or.inl ⟨by rfl, ?_⟩) hHeld ?_ ?_
  rotate_left
  · intro w' hS_
    obtain ⟨s0, s1, s2, s3⟩ := hS_
    go_simp
    with_reducible rfl
  rotate_left
  · simp only [Act.put, List.setIfInBounds_toArray, List.set_cons_zero, List.set_cons_succ, i64_w, i32_w]
    rfl
  refine one_ (i := 4) (N := (some 9)) #[true, true, true, true, true, true, true, true, true, false, false, false, false] rfl rfl (by kernel_rfl) (by decide) (fun K hK => ?_)
  refine goes_ Try.func59 (by kernel_rfl) rfl #[.int .i64 a, .int .i64 b] rfl rfl rfl (by (try simp only [List.map_toArray, List.map_cons, List.map_nil]); rfl) ?_
  refine (cmp_Compare_int.calls a b (cmpInt a b) _ (compare_f a b)).mono ?_
  rintro e w' ⟨rfl, ⟨nd, hnd⟩⟩
  subst hnd
  refine ⟨_, rfl, ?_⟩
  replace H2 := Aside0.mk (blk_drewN H2.out nd)
  replace H3 := Aside0.mk (blk_drewN H3.out nd)
  replace HG := Aside0.mk (HG.out.drewN nd)
  generalize hw_ : World.drewN _ nd = w1 at H2 H3 HG ⊢
  clear hw_
  refine hK.out _ _ ⟨(blk_cell H2.out 0).trans rfl, (blk_cell H2.out 1).trans rfl, (blk_cell H3.out 0).trans rfl, (blk_cell H3.out 1).trans rfl⟩ (fun hHeld => ?_)
  clear hK K
  refine norm_ (a' := ?_) ?_ ?_
  rotate_left
  · show Act.put _ (some 9) _ = _
    simp only [Act.put, List.setIfInBounds_toArray, List.set_cons_zero, List.set_cons_succ, i64_w, i32_w]
    rfl
  refine one_ (i := 9) (N := (some 14)) #[true, true, true, true, true, true, true, true, true, true, false, false, false] rfl rfl (by kernel_rfl) (by decide) (fun K hK => ?_)
  refine goes_ Try.func59 (by kernel_rfl) rfl #[.int .i64 s, .int .i64 t] rfl rfl rfl (by (try simp only [List.map_toArray, List.map_cons, List.map_nil]); rfl) ?_
  refine (cmp_Compare_int.calls s t (cmpInt s t) _ (compare_f s t)).mono ?_
  rintro e w' ⟨rfl, ⟨nd, hnd⟩⟩
  subst hnd
  refine ⟨_, rfl, ?_⟩
  replace H2 := Aside0.mk (blk_drewN H2.out nd)
  replace H3 := Aside0.mk (blk_drewN H3.out nd)
  replace HG := Aside0.mk (HG.out.drewN nd)
  generalize hw_ : World.drewN _ nd = w2 at H2 H3 HG ⊢
  clear hw_
  refine hK.out _ _ ⟨(blk_cell H2.out 0).trans rfl, (blk_cell H2.out 1).trans rfl, (blk_cell H3.out 0).trans rfl, (blk_cell H3.out 1).trans rfl⟩ (fun hHeld => ?_)
  clear hK K
  refine norm_ (a' := ?_) ?_ ?_
  rotate_left
  · show Act.put _ (some 14) _ = _
    simp only [Act.put, List.setIfInBounds_toArray, List.set_cons_zero, List.set_cons_succ, i64_w, i32_w]
    rfl
  refine one_ (i := 10) (N := (some 15)) #[true, true, true, true, true, true, true, true, true, true, true, false, false] rfl rfl (by kernel_rfl) (by decide) (fun K hK => ?_)
  refine step_run (v := .slice (some ⟨w2.heap.size, 0, none⟩) 2 2) (w1 := w2.alloc (.cells #[.int .i64 (cmpInt a b), .int .i64 (cmpInt s t)] 3)) rfl (by go_simp) ?_
  replace H2 := Aside0.mk (blk_old H2.out (.cells #[.int .i64 (cmpInt a b), .int .i64 (cmpInt s t)] 3))
  replace H3 := Aside0.mk (blk_old H3.out (.cells #[.int .i64 (cmpInt a b), .int .i64 (cmpInt s t)] 3))
  replace HG := Aside0.mk (HG.out.alloc (.cells #[.int .i64 (cmpInt a b), .int .i64 (cmpInt s t)] 3))
  have HR := Aside0.mk (blk_newAt (w := w2) (n := w2.heap.size) (.cells #[.int .i64 (cmpInt a b), .int .i64 (cmpInt s t)] 3) rfl)
  refine hK.out _ _ ⟨(blk_cell H2.out 0).trans rfl, (blk_cell H2.out 1).trans rfl, (blk_cell H3.out 0).trans rfl, (blk_cell H3.out 1).trans rfl⟩ (fun hHeld => ?_)
  clear hK K
  refine norm_ (a' := ?_) ?_ ?_
  rotate_left
  · show Act.put _ (some 15) _ = _
    simp only [Act.put, List.setIfInBounds_toArray, List.set_cons_zero, List.set_cons_succ, i64_w, i32_w]
    rfl
  refine one_ (i := 11) (N := (some 16)) #[true, true, true, true, true, true, true, true, true, true, true, true, false] rfl rfl (by kernel_rfl) (by decide) (fun K hK => ?_)
  refine goes_ Try.func58 (by kernel_rfl) rfl #[.slice (some ⟨w2.heap.size, 0, none⟩) 2 2] rfl rfl rfl (by (try simp only [List.map_toArray, List.map_cons, List.map_nil]); rfl) ?_
  refine (cmp_Or_int.calls 3 (some ⟨w2.heap.size, 0, none⟩) 2 [cmpInt a b, cmpInt s t] (orInt (cmpInt a b) (cmpInt s t)) _ (reads_two HR.out) (Nat.le_refl _) (or_f _ _)).mono ?_
  rintro e w' ⟨rfl, ⟨nd, hnd⟩⟩
  subst hnd
  refine ⟨_, rfl, ?_⟩
  replace H2 := Aside0.mk (blk_drewN H2.out nd)
  replace H3 := Aside0.mk (blk_drewN H3.out nd)
  replace HG := Aside0.mk (HG.out.drewN nd)
  generalize hw_ : World.drewN _ nd = w3 at H2 H3 HG ⊢
  clear hw_
  refine hK.out _ _ ⟨(blk_cell H2.out 0).trans rfl, (blk_cell H2.out 1).trans rfl, (blk_cell H3.out 0).trans rfl, (blk_cell H3.out 1).trans rfl⟩ (fun hHeld => ?_)
  clear hK K
  refine norm_ (a' := ?_) ?_ ?_
  rotate_left
  · show Act.put _ (some 16) _ = _
    simp only [Act.put, List.setIfInBounds_toArray, List.set_cons_zero, List.set_cons_succ, i64_w, i32_w]
    rfl
  refine pure_ (i := 12) (N := (some 4)) (v := ?_) (a' := ?_) #[true, true, true, true, true, true, true, true, true, true, true, true, true] rfl rfl (by kernel_rfl) (fun _ _ _ h => h) (Or.inl ⟨by rfl, ?_⟩) ?_ ?_
  rotate_left
  · intro w'
    go_simp
    with_reducible rfl
  rotate_left
  · simp only [Act.put, List.setIfInBounds_toArray, List.set_cons_zero, List.set_cons_succ, i64_w, i32_w]
    rfl
  refine done_ (by kernel_rfl) ?_
  try go_wp2
  go_ret
  exact ⟨rfl, HG.out⟩

def encP (p : TPair) : List Value := [.int .i64 p.f0, .int .i64 p.f1]
theorem hkP : ∀ p : TPair, (encP p).length = 2 := fun _ => rfl
def PairRow (w : World) (base : Nat) (v : Value) (es : List TPair) : Prop := w.ownsRow base 27 2 v es.length (es.flatMap encP)
theorem sort_pair (w : World) (base g n cap : Nat) (es : List TPair) (hn : n = es.length) (hl : es.length ≤ 1000000000) (ho : PairRow w base (.slice (some ⟨g, 0, none⟩) n cap) es) :
    Calls Try.prog 44 #[.slice (some ⟨g, 0, none⟩) n cap, .func (.func 45) #[] #[]] w fun e w' => e = .returned (.tuple #[]) ∧
      ∃ es', es'.Perm es ∧ es'.Pairwise (fun p q => ¬ cmpPair q p < 0) ∧ PairRow w' base (.slice (some ⟨g, 0, none⟩) n cap) es' ∧ w.grownBy w' (some g) := by
  subst hn
  obtain ⟨g', cur, hg', hb, hg, hnc, hcm, hsz, htk⟩ := row_block ho
  cases hg'
  have eg : ∀ args w, (callFunc 45 args).run Try.prog w = .ok (.enter 45 args) w := enters_of Try.func45 (by kernel_rfl) rfl
  haveI : Inhabited TPair := ⟨⟨0, 0⟩⟩
  let d : Array TPair := es.toArray
  have hd : d.size = es.length := by simp [d]
  have hH : HoldsK encP 2 w g 0 d := holds_of_own hkP hd ho
  have hT : TotalCmp cmpPair := totalPair
  have hO : SWO (ltOf cmpPair) := ⟨fun x => (hT.swo).irrefl _, fun x y z => (hT.swo).trans _ _ _, fun x y z => (hT.swo).ntrans _ _ _⟩
  have hcmp : CmpLays Try.prog 45 #[] encP 2 cmpPair g 0 d.size w := by
    intro m os dk hdk x y
    have := orderP_calls x.f0 x.f1 y.f0 y.f1 (sortWorldK encP 2 w g 0 m dk os)
    exact this.mono fun e w' ⟨he, q, os', hw⟩ => ⟨he, q, os', hw⟩
  have hcon := AnyQ.slices_SortFunc Try.sortPair 2 Try.isAgg27 Try.sizeOf27 encP hkP (fun x v hv => by
      simp [encP] at hv
      rcases hv with rfl | rfl <;> rfl) cmpPair hO 45 #[] g 0 cap d w eg hcmp hH (Array.getElem?_eq_some_iff.1 hg).1 (by rw [hd]; omega)
  rw [hd] at hcon
  refine hcon.mono ?_
  rintro e w' ⟨he, d', m, os, hp, hso, rfl⟩
  have hd' : d'.size = es.length := hp.1.trans hd
  obtain ⟨o1, o2⟩ := own_sorted (enc := encP) hkP (d' := d') hd' m os ho
  have hperm : d'.toList.Perm es := by
    have h1 := hp.2.2
    rw [Array.extract_eq_self_of_le (by omega), Array.extract_eq_self_of_le (by omega)] at h1
    exact h1
  refine ⟨he, d'.toList, hperm, ?_, ?_, o2⟩
  · rw [List.pairwise_iff_getElem]
    intro i j hi hj hij
    have := hso i j (Nat.zero_le _) hij (by simpa [hd'] using hj)
    rw [getElem!_pos d' j (by simpa using hj), getElem!_pos d' i (by simpa using hi)] at this
    simpa [ltOf] using this
  · unfold PairRow
    rw [hperm.length_eq]
    exact o1

def eqP (p q : TPair) : Bool := p.f0 == q.f0 && p.f1 == q.f1
theorem eqP_iff (p q : TPair) : eqP p q = decide (cmpPair p q = 0) := by
  have := totalPair.zero (x := p) (y := q)
  rw [Bool.eq_iff_iff, decide_eq_true_eq, this]
  cases p; cases q
  simp [eqP]
attribute [local go_sem high] eqA27
set_option maxHeartbeats 8000000 in
set_option maxRecDepth 100000 in
theorem compact_pair (w : World) (base g n cap : Nat) (es : List TPair) (hn : n = es.length) (hl : es.length ≤ 1000000000) (ho : PairRow w base (.slice (some ⟨g, 0, none⟩) n cap) es) :
    Calls Try.prog 47 #[.slice (some ⟨g, 0, none⟩) n cap] w fun e w' => e = .returned (.slice (some ⟨g, 0, none⟩) (dd eqP es).length cap) ∧
      PairRow w' base (.slice (some ⟨g, 0, none⟩) (dd eqP es).length cap) (dd eqP es) ∧ w.grownBy w' (some g) := by
  subst hn
  obtain ⟨hh, hb, hc⟩ := Has2.of_own rfl ho
  obtain ⟨cur0, hg0, _⟩ := id hh
  have HH := Aside0.mk hh
  have HO := Aside0.mk ho
  have HG0 := Aside0.mk hg0
  have hcap := hh
  obtain ⟨_, _, _, hcap, _⟩ := hcap
  have HC := Aside0.mk (And.intro hb (And.intro hc (And.intro hl hcap)))
  have same : Aside0 (∀ w', GD w w' → dd eqP es = es → PairRow w' base (.slice (some ⟨g, 0, none⟩) (dd eqP es).length cap) (dd eqP es) ∧ w.grownBy w' (some g)) := ⟨fun w' hw he => by
    rw [he]
    refine ⟨(HH.out.move (hw.below.block g HH.out.lt)).own hkP HC.out.1 HC.out.2.1, ?_⟩
    have b := hw.below
    exact ⟨b.os, b.tape, b.output, b.size, fun k hk _ => b.block k hk⟩⟩
  clear ho hh hb hc hg0 hcap
  by_cases h2 : es.length < 2
  · have d2 : decide ((es.length : Int) < 2) = true := decide_eq_true (by omega)
    have hone := Aside0.mk (dd_one eqP es (by omega))
    clear h2 hl
    go_enter Try.func47, Try.ntmps47
    go_wp2
    go_ret
    have := same.out w (GD.refl w) hone.out
    exact ⟨by rw [hone.out]; rfl, this.1, this.2⟩
  · have d2 : decide ((es.length : Int) < 2) = false := decide_eq_false (by omega)
    clear hl
    go_enter Try.func47, Try.ntmps47
    go_wp2
    go_loopg [3] es.length (fun gq v5 w' => ∃ i : Nat, v5 = .int .i64 ((i : Int) + 1) ∧ Aside0 (i + 1 ≤ es.length ∧ es.length - (i + 1) ≤ gq) ∧ Aside0 (dd eqP (es.take (i + 1)) = es.take (i + 1)) ∧ Aside0 (GD w w'))
    case atStart => exact ⟨0, rfl, ⟨by omega, by omega⟩, ⟨dd_one _ _ (by simp; omega)⟩, ⟨GD.refl w⟩⟩
    case round =>
      obtain ⟨i, rfl, Hi, Hd, Hg⟩ := hrel
      by_cases hlt : i + 1 < es.length
      · have d3 : decide ((i : Int) + 1 < (es.length : Int)) = true := decide_eq_true (by omega)
        have t1 := eq_true (show (0 : Int) ≤ (i : Int) + 1 by omega)
        have t2 := eq_true (show (i : Int) + 1 < (es.length : Int) by omega)
        have t3 := eq_true (show (0 : Int) ≤ (i : Int) by omega)
        have t4 := eq_true (show (i : Int) < (es.length : Int) by omega)
        have wr1 : wrap64 (i : Int) = (i : Int) := by have := HC.out.2.2.1; unfold wrap64; omega
        have HL := Aside0.mk hlt
        have HHr := HH.out.move (Hg.out.below.block g HH.out.lt)
        obtain ⟨c0, c1⟩ := HHr.cell hkP (i + 1) hlt (a := .int .i64 es[i + 1].f0) (b := .int .i64 es[i + 1].f1) rfl
        obtain ⟨c2, c3⟩ := HHr.cell hkP i (by omega) (a := .int .i64 (es[i]'(by omega)).f0) (b := .int .i64 (es[i]'(by omega)).f1) rfl
        clear HHr h2
        have Hn := Aside0.mk (dd_next eqP es (i + 1) (by omega) hlt)
        simp only [Nat.add_sub_cancel] at Hn
        obtain ⟨x, hx⟩ : ∃ x, x = es[i + 1] := ⟨_, rfl⟩
        rw [← hx] at c0 c1 Hn
        have Hx : Aside0 (es[i + 1]? = some x) := ⟨by rw [hx]; exact List.getElem?_eq_getElem hlt⟩
        clear hx
        generalize es[i]'(by omega) = y at c2 c3 Hn
        clear hlt
        obtain ⟨x0, x1⟩ := x
        obtain ⟨y0, y1⟩ := y
        have Hc : Aside0 (eqP { f0 := x0, f1 := x1 } { f0 := y0, f1 := y1 } = (x0 == y0 && x1 == y1)) := ⟨rfl⟩
        go_wp2
        go_quiet (fail)
        obtain ⟨nq1, rfl⟩ : ∃ m : Nat, m = nq := ⟨_, rfl⟩
        have Hw := Aside0.mk (Hg.out.drewN nq1)
        generalize wr.drewN nq1 = w3 at Hw ⊢
        clear c0 c1 c2 c3
        generalize (x0 == y0 && x1 == y1) = bb at Hc ⊢
        cases bb with
        | false =>
          go_wp2
          go_roundg (es.length - (i + 2))
          case measure => have := Hi.out; have := HL.out; omega
          case rel => exact ⟨i + 1, by have := HC.out.2.2.1; have := HL.out; rw [show wrap64 ((i : Int) + 1 + 1) = ((i + 1 : Nat) : Int) + 1 by unfold wrap64; omega], ⟨HL.out, Nat.le_refl _⟩, ⟨by rw [Hn.out, Hd.out, Hc.out, if_neg (by decide), List.take_add_one (i := i + 1), Hx.out]; rfl⟩, Hw⟩
        | true =>
          have q1 : (cap = i + 1) = False := eq_false (by have := HL.out; have := HC.out.2.2.2; omega)
          have q2 := eq_true (show (i : Int) + 1 ≤ (es.length : Int) by have := HL.out; omega)
          go_wp2
          clear q1 q2 t1 t2 t3 t4 wr1 d3
          generalize hL2 : es.length - (i + 1) = L2
          generalize hC2 : cap - (i + 1) = C2
          have HL2 := Aside0.mk (And.intro hL2 hC2)
          clear hL2 hC2
          obtain ⟨wo, rfl⟩ : ∃ wo : World, wo = w3 := ⟨_, rfl⟩
          go_loopg [3, 5] es.length (fun gq v5 v7 w' => ∃ (kk j : Nat) (rows : List TPair), v5 = .int .i64 (kk : Int) ∧ v7 = .int .i64 ((j : Int) + 1) ∧ Aside0 (j + 1 ≤ L2 ∧ L2 - (j + 1) ≤ gq ∧ 1 ≤ kk ∧ kk ≤ i + 1 + j ∧ kk = (dd eqP (es.take (i + 1 + j + 1))).length) ∧ Aside0 (Has2 encP w' g 27 cap rows) ∧
            Aside0 (rows.length = es.length ∧ rows.take kk = dd eqP (es.take (i + 1 + j + 1)) ∧ rows.drop (i + 1 + j) = es.drop (i + 1 + j)) ∧ Aside0 (w.grownBy w' (some g)))
          case atStart =>
            have e1 : dd eqP (es.take (i + 1 + 1)) = es.take (i + 1) := by rw [Hn.out, Hd.out, Hc.out, if_pos rfl, List.append_nil]
            have b := Hw.out.below
            have := HL.out
            exact ⟨i + 1, 0, es, by push_cast; rfl, rfl, ⟨by have := HL2.out.1; omega, by have := HL2.out.1; omega, by omega, by omega, by simp only [Nat.add_zero]; rw [e1]; simp; omega⟩, ⟨HH.out.move (b.block g HH.out.lt)⟩, ⟨rfl, by simp only [Nat.add_zero]; rw [e1], rfl⟩, ⟨b.os, b.tape, b.output, b.size, fun k hk _ => b.block k hk⟩⟩
          case round =>
            obtain ⟨kk, j, rows, rfl, rfl, Hj, HM, Hr, Hgb⟩ := hrel
            by_cases hlt : j + 1 < L2
            · have d4 : decide ((j : Int) + 1 < (L2 : Int)) = true := decide_eq_true (by omega)
              have t1 := eq_true (show (0 : Int) ≤ (j : Int) + 1 by omega)
              have t2 := eq_true (show (j : Int) + 1 < (L2 : Int) by omega)
              have t3 := eq_true (show (0 : Int) ≤ (j : Int) by omega)
              have t4 := eq_true (show (j : Int) < (L2 : Int) by omega)
              have wr1 : wrap64 (j : Int) = (j : Int) := by have := HC.out.2.2.1; have := HL2.out.1; unfold wrap64; omega
              have HL3 := Aside0.mk hlt
              have hp : i + 1 + (j + 1) < es.length := by have := HL2.out.1; omega
              have hpr : i + 1 + (j + 1) < rows.length := by rw [Hr.out.1]; exact hp
              have e1 : rows[i + 1 + (j + 1)] = es[i + 1 + (j + 1)] := by
                have h1 : (rows.drop (i + 1 + j))[1]? = rows[i + 1 + (j + 1)]? := List.getElem?_drop
                have h2 : (es.drop (i + 1 + j))[1]? = es[i + 1 + (j + 1)]? := List.getElem?_drop
                rw [Hr.out.2.2, h2, List.getElem?_eq_getElem hp, List.getElem?_eq_getElem hpr] at h1
                exact (Option.some.inj h1).symm
              have e2 : rows[i + 1 + j]'(by omega) = es[i + 1 + j]'(by omega) := by
                have h1 := List.getElem?_drop (xs := rows) (i := i + 1 + j) (j := 0)
                have h2 := List.getElem?_drop (xs := es) (i := i + 1 + j) (j := 0)
                rw [Hr.out.2.2, h2, Nat.add_zero, List.getElem?_eq_getElem (by omega), List.getElem?_eq_getElem (by omega)] at h1
                exact (Option.some.inj h1).symm
              obtain ⟨c0, c1⟩ := HM.out.cell hkP (i + 1 + (j + 1)) hpr (a := .int .i64 es[i + 1 + (j + 1)].f0) (b := .int .i64 es[i + 1 + (j + 1)].f1) (by rw [e1]; rfl)
              obtain ⟨c2, c3⟩ := HM.out.cell hkP (i + 1 + j) (by omega) (a := .int .i64 (es[i + 1 + j]'(by omega)).f0) (b := .int .i64 (es[i + 1 + j]'(by omega)).f1) (by rw [e2]; rfl)
              rw [show (i + 1 + (j + 1)) * 2 = (i + 1) * 2 + (j + 1) * 2 by omega] at c0 c1
              rw [show (i + 1 + j) * 2 = (i + 1) * 2 + j * 2 by omega] at c2 c3
              have Hn2 := Aside0.mk (dd_next eqP es (i + 1 + (j + 1)) (by omega) hp)
              simp only [show i + 1 + (j + 1) - 1 = i + 1 + j by omega] at Hn2
              obtain ⟨x, hx⟩ : ∃ x, x = es[i + 1 + (j + 1)] := ⟨_, rfl⟩
              rw [← hx] at c0 c1 Hn2
              have Hx2 : Aside0 (es[i + 1 + (j + 1)]? = some x) := ⟨by rw [hx]; exact List.getElem?_eq_getElem hp⟩
              generalize es[i + 1 + j]'(by omega) = y at c2 c3 Hn2
              have HxR : Aside0 (∃ h : i + 1 + (j + 1) < rows.length, rows[i + 1 + (j + 1)] = x) := ⟨hpr, e1.trans hx.symm⟩
              clear hlt e1 e2 hx hp hpr
              obtain ⟨u0, u1⟩ := x
              obtain ⟨v0, v1⟩ := y
              have Hc2 : Aside0 (eqP { f0 := u0, f1 := u1 } { f0 := v0, f1 := v1 } = (u0 == v0 && u1 == v1)) := ⟨rfl⟩
              go_wp2
              go_quiet (fail)
              obtain ⟨nq2, rfl⟩ : ∃ m : Nat, m = nq := ⟨_, rfl⟩
              have HM4 : Aside0 (Has2 encP (wr.drewN nq2) g 27 cap rows) := ⟨HM.out.move rfl⟩
              have Hgb4 := Aside0.mk (gb_drewN Hgb.out nq2)
              generalize wr.drewN nq2 = w4 at HM4 Hgb4 ⊢
              clear c0 c1 c2 c3
              rw [← Bool.not_and]
              generalize (u0 == v0 && u1 == v1) = b2 at Hc2 ⊢
              have Hlen := Aside0.mk (show (dd eqP (es.take (i + 1 + (j + 1) + 1))).length = kk + if b2 = true then 0 else 1 by rw [Hn2.out, List.length_append, Hj.out.2.2.2.2, Hc2.out]; cases b2 <;> rfl)
              cases b2 with
              | true =>
                go_wp2
                go_roundg (L2 - (j + 2))
                case measure => have := Hj.out; have := HL3.out; omega
                case rel => exact ⟨kk, j + 1, rows, rfl, by have := HC.out.2.2.1; have := HL3.out; have := HL2.out.1; rw [show wrap64 ((j : Int) + 1 + 1) = ((j + 1 : Nat) : Int) + 1 by unfold wrap64; omega], ⟨HL3.out, Nat.le_refl _, Hj.out.2.2.1, by have := Hj.out; omega, Hlen.out.symm⟩, HM4, ⟨Hr.out.1, by rw [show i + 1 + (j + 1) + 1 = i + 1 + (j + 1) + 1 from rfl, Hn2.out, Hc2.out, if_pos rfl, List.append_nil]; exact Hr.out.2.1, by
                  have := congrArg (List.drop 1) Hr.out.2.2
                  rw [List.drop_drop, List.drop_drop] at this
                  exact this⟩, Hgb4⟩
              | false =>
                obtain ⟨hpr, e1⟩ := HxR.out
                obtain ⟨c0, c1⟩ := HM4.out.cell hkP (i + 1 + (j + 1)) hpr (a := .int .i64 u0) (b := .int .i64 u1) (by rw [e1]; rfl)
                rw [show (i + 1 + (j + 1)) * 2 = (i + 1) * 2 + (j + 1) * 2 by omega] at c0 c1
                have hkr : kk < rows.length := by have := Hj.out; omega
                obtain ⟨c2, c3⟩ := HM4.out.cell hkP kk hkr (a := .int .i64 (rows[kk]).f0) (b := .int .i64 (rows[kk]).f1) rfl
                generalize Value.int IntKind.i64 (rows[kk]).f0 = old0 at c2
                generalize Value.int IntKind.i64 (rows[kk]).f1 = old1 at c3
                have f2 := HM4.out.frozen (kk * 2)
                have f3 := HM4.out.frozen (kk * 2 + 1)
                have t5 := eq_true (show (kk : Int) < (es.length : Int) by have := Hr.out.1; omega)
                have hkk := Aside0.mk hkr
                clear hpr e1 hkr
                go_wp2
                go_roundg (L2 - (j + 2))
                case measure => have := Hj.out; have := HL3.out; omega
                case rel =>
                  have q1 := Hj.out
                  have q2 := HC.out.2.2.1
                  have q3 := HL3.out
                  have q4 := HL2.out.1
                  refine ⟨kk + 1, j + 1, rows.set kk { f0 := u0, f1 := u1 }, by rw [show wrap64 ((kk : Int) + 1) = ((kk + 1 : Nat) : Int) by unfold wrap64; omega], by rw [show wrap64 ((j : Int) + 1 + 1) = ((j + 1 : Nat) : Int) + 1 by unfold wrap64; omega], ⟨HL3.out, Nat.le_refl _, by omega, by omega, Hlen.out.symm⟩, ⟨HM4.out.set hkP kk hkk.out _ rfl⟩, ⟨by rw [List.length_set]; exact Hr.out.1, ?_, ?_⟩, ⟨gb_trans Hgb4.out (gb_setCells [_, _] (kk * 2) w4)⟩⟩
                  · rw [take_set_next _ _ _ hkk.out, Hr.out.2.1, Hn2.out, Hc2.out, if_neg (by decide)]; rfl
                  · rw [List.drop_set_of_lt (by omega)]
                    have := congrArg (List.drop 1) Hr.out.2.2
                    rw [List.drop_drop, List.drop_drop] at this
                    exact this
            · have d4 : decide ((j : Int) + 1 < (L2 : Int)) = false := decide_eq_false (by omega)
              have hend : i + 1 + j + 1 = es.length := by have := Hj.out; have := HL2.out.1; have := HL.out; omega
              have hk := Aside0.mk (And.intro Hj.out.2.2.2.2 Hr.out.2.1)
              rw [hend, List.take_length] at hk
              have hkn : kk < es.length := by have := Hj.out; omega
              have hcp := HC.out.2.2.2
              obtain ⟨vs, hcl⟩ := run_clear2 (P := Try.prog) wr 24 27 (.agg #[.int .i64 0, .int .i64 0]) (.int .i64 0) (.int .i64 0) Try.underlying24 Try.zeroValue27 rfl rfl rfl g (kk * 2) (es.length - kk) (cap - kk) (by omega) (fun j hj => HM.out.has _ (by omega)) (fun j hj => HM.out.frozen _)
              have t1 := eq_true (show (kk : Int) ≤ (es.length : Int) by omega)
              have t2 := eq_true (show kk ≤ cap by omega)
              have t3 : (cap = kk) = False := eq_false (by omega)
              have t4 := eq_true (show (kk : Int) ≤ (cap : Int) by omega)
              clear hlt hend hkn hcp
              go_wp2
              have hf := HM.out.cut hkP kk vs
              rw [hk.out.2] at hf
              have hgb := gb_trans Hgb.out (gb_setCells (g := g) vs (kk * 2) wr)
              go_ret
              exact ⟨by rw [← hk.out.1]; rfl, hf.own hkP HC.out.1 HC.out.2.1, hgb⟩
      · have d3 : decide ((i : Int) + 1 < (es.length : Int)) = false := decide_eq_false (by omega)
        have He : Aside0 (dd eqP es = es) := ⟨by have := Hi.out.1; have h := Hd.out; rw [List.take_of_length_le (by omega)] at h; exact h⟩
        clear hlt
        go_wp2
        go_ret
        have := same.out wr Hg.out He.out
        exact ⟨by rw [He.out]; rfl, this.1, this.2⟩
end Go.Proofs.Ytmkpfamngedcmaa.P
