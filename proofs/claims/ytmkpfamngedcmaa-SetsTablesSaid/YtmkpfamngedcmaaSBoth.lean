/- sets.Both: the pairs that two rows have. -/
import Derived.Test.YtmkpfamngedcmaaSBsearch
import Derived.Test.YtmkpfamngedcmaaLIndex
set_option linter.unusedVariables false
set_option linter.unusedSimpArgs false
set_option linter.unnecessarySimpa false
namespace Go.Proofs.Ytmkpfamngedcmaa.P
open Go.RowKit Go.Proofs.YtmkpfamngedcmaaW.PrintWords Go.Proofs.YtmkpfamngedcmaaW.PrintLast Go.Proofs.YtmkpfamngedcmaaW.PrintMore Go.Proofs.Ytmkpfamngedcmaa.M
open Go.Sort Go.Shelf Go.Lib

/-- the function value that sets.Both hands on -/
def notIn (es : List TPair) (x : TPair) : Bool := !(es.any fun y => eqP y x)
set_option maxHeartbeats 4000000 in
set_option maxRecDepth 100000 in
theorem both1 (gb : Nat) (A : Option Addr) (c : Nat) (es : List TPair) (x : TPair) (w : World) (hb : w.heap[gb]? = some (.cells #[.slice A es.length c] 24 (0, 0))) (hr : Kd.C k27 w A es.length es) (hs : es.Pairwise (fun a b => cmpPair a b < 0)) (hl : es.length ≤ 1000000000) :
    Calls Try.prog 52 #[.agg #[.int .i64 x.f0, .int .i64 x.f1], .pointer (some ⟨gb, 0, none⟩)] w fun e w' => e = .returned (.bool (notIn es x)) ∧ Below w.heap.size w w' := by
  have HBX := Aside0.mk hb
  have HR := Aside0.mk hr
  have HS := Aside0.mk hs
  have HL := Aside0.mk hl
  obtain ⟨x0, x1⟩ := x
  have b0 : (w.alloc (.cells #[.int .i64 x0, .int .i64 x1] 27)).cell? ⟨gb, 0, none⟩ = some (.slice A es.length c) := (blk_cell (blk_old hb _) 0).trans rfl
  have hx : (w.alloc (.cells #[.int .i64 x0, .int .i64 x1] 27)).heap[w.heap.size]? = some (.cells #[.int .i64 x0, .int .i64 x1] 27 (0, 0)) := blk_newAt _ rfl
  have b1 := (blk_cell hx 0).trans (show (#[Value.int .i64 x0, Value.int .i64 x1] : Array Value)[0]? = some (.int .i64 x0) from rfl)
  have b2 := (blk_cell hx 1).trans (show (#[Value.int .i64 x0, Value.int .i64 x1] : Array Value)[1]? = some (.int .i64 x1) from rfl)
  clear hb hr hs hl hx
  go_enter Try.func52, Try.ntmps52
  go_wp2_with (go_at_call 53; go_loud (refine (bsearch A c es ⟨x0, x1⟩ _ (Kd.C_below HR.out (below_alloc (Below.refl _ _) _)) HS.out HL.out).mono ?_; rintro e w2 ⟨i, rfl, hb2⟩; have HB2 := Aside0.mk (below_then (below_alloc (Below.refl w.heap.size w) (.cells #[.int .i64 x0, .int .i64 x1] 27)) (by rw [size_alloc]; omega) hb2); clear hb2))
  go_ret
  exact ⟨rfl, HB2.out⟩

instance : Inhabited TPair := ⟨⟨0, 0⟩⟩
theorem first_del (p : TPair → Bool) (es : List TPair) : (idxBy (fun _ y => p y) (es.take es.length) default = -1 ∧ es.filter (fun y => !p y) = es) ∨ ∃ k : Nat, k < es.length ∧ idxBy (fun _ y => p y) (es.take es.length) default = (k : Int) ∧ (es.take (k + 1)).filter (fun y => !p y) = es.take k := by
  by_cases h : ∃ k, ∃ h : k < es.length, p es[k] = true
  · right
    have hn : ∀ n : Nat, (∃ k, k < n ∧ ∃ h : k < es.length, p es[k] = true) → ∃ k, k < n ∧ ∃ h : k < es.length, p es[k] = true ∧ ∀ j, (hj : j < k) → p (es[j]'(by omega)) = false := by
      intro n
      induction n with
      | zero => rintro ⟨k, hk, _⟩; omega
      | succ n ih =>
        rintro ⟨k, hk, hl, hp⟩
        by_cases h2 : ∃ k, k < n ∧ ∃ h : k < es.length, p es[k] = true
        · obtain ⟨k, hk, r⟩ := ih h2
          exact ⟨k, by omega, r⟩
        · refine ⟨k, hk, hl, hp, fun j hj => ?_⟩
          cases hq : p (es[j]'(by omega)) with
          | false => rfl
          | true => exact absurd ⟨j, by omega, by omega, hq⟩ h2
    obtain ⟨k0, hl0, hp0⟩ := h
    obtain ⟨k, _, hl, hp, hne⟩ := hn (k0 + 1) ⟨k0, by omega, hl0, hp0⟩
    have e : ∀ j, (hj : j < es.length) → es[j]! = es[j] := fun j hj => getElem!_pos es j hj
    refine ⟨k, hl, idxBy_hit (fun _ y => p y) es es.length k default hl (Nat.le_refl _) (by rw [e k hl]; exact hp) (fun j hj => by rw [e j (by omega)]; exact hne j hj), ?_⟩
    rw [List.take_add_one, List.getElem?_eq_getElem hl, List.filter_append]
    have h1 : (es.take k).filter (fun y => !p y) = es.take k := by
      rw [List.filter_eq_self]
      intro y hy
      obtain ⟨j, hj, rfl⟩ := List.mem_iff_getElem.1 hy
      rw [List.length_take] at hj
      rw [List.getElem_take, hne j (by omega)]
      rfl
    rw [h1]
    simp [hp]
  · left
    have hf : ∀ j, (hj : j < es.length) → p es[j] = false := fun j hj => by
      cases hq : p es[j] with
      | false => rfl
      | true => exact absurd ⟨j, hj, hq⟩ h
    refine ⟨idxBy_miss (fun _ y => p y) es es.length default (fun j hj => by rw [getElem!_pos es j hj]; exact hf j hj), ?_⟩
    rw [List.filter_eq_self]
    intro y hy
    obtain ⟨j, hj, rfl⟩ := List.mem_iff_getElem.1 hy
    rw [hf j hj]
    rfl
set_option maxHeartbeats 8000000 in
set_option maxRecDepth 100000 in
theorem delete_pair (w : World) (base g cap cv gb : Nat) (es : List TPair) (p : TPair → Bool) (hl : es.length ≤ 1000000000) (hcv : es.length ≤ cv) (hcc : cv ≤ cap) (ho : PairRow w base (.slice (some ⟨g, 0, none⟩) es.length cap) es)
    (hp : ∀ (W : World) (x : TPair), w.grownBy W (some g) → Calls Try.prog 52 #[.agg #[.int .i64 x.f0, .int .i64 x.f1], .pointer (some ⟨gb, 0, none⟩)] W fun e w' => e = .returned (.bool (p x)) ∧ Below W.heap.size W w') :
    Calls Try.prog 51 #[.slice (some ⟨g, 0, none⟩) es.length cv, .func (.func 52) #[] #[.pointer (some ⟨gb, 0, none⟩)]] w fun e w' => e = .returned (.slice (some ⟨g, 0, none⟩) (es.filter fun y => !p y).length cv) ∧
      PairRow w' base (.slice (some ⟨g, 0, none⟩) (es.filter fun y => !p y).length cap) (es.filter fun y => !p y) ∧ w.grownBy w' (some g) := by
  obtain ⟨hh, hb, hc⟩ := Has2.of_own rfl ho
  have HH := Aside0.mk hh
  have HP := Aside0.mk hp
  have HC := Aside0.mk (And.intro hb (And.intro hc (And.intro hl (And.intro hcv hcc))))
  have eg : ∀ args w, (callFunc 52 args).run Try.prog w = .ok (.enter 52 args) w := enters_of Try.func52 (by kernel_rfl) rfl
  have gbB : ∀ W : World, Below w.heap.size w W → w.grownBy W (some g) := fun W b => ⟨b.os, b.tape, b.output, b.size, fun k hk _ => b.block k hk⟩
  have hidx := AnyQ.slices_IndexFunc Try.indexPair 2 Try.isAgg27 Try.sizeOf27 encP hkP p 52 #[.pointer (some ⟨gb, 0, none⟩)] eg g 0 es.length cv es w (fun W x hW => (hp W x (gbB W hW)).mono fun e w' h => ⟨h.1, below_then hW hW.size h.2⟩) (Nat.le_refl _) (by omega) hh.lt (fun j hj i v hv => by
    obtain ⟨h1, h2⟩ := hh.cell hkP j hj (a := .int .i64 es[j].f0) (b := .int .i64 es[j].f1) rfl
    rw [getElem!_pos es j hj] at hv
    rw [Nat.zero_add]
    match i with
    | 0 => simp [encP] at hv; subst hv; exact h1
    | 1 => simp [encP] at hv; subst hv; exact h2
    | i + 2 => simp [encP] at hv)
  have hfd := first_del p es
  generalize idxBy (fun _ y => p y) (es.take es.length) default = q at hidx hfd
  have HI := Aside0.mk hidx
  clear hidx hh hp hb hc hl hcv hcc eg
  rcases hfd with ⟨rfl, hf⟩ | ⟨k, hk, rfl, hf⟩
  · have HO := Aside0.mk ho
    clear ho
    go_enter Try.func51, Try.ntmps51
    go_wp2_with (go_at_call 61; go_loud (refine HI.out.mono ?_; rintro e w1 ⟨rfl, hb1⟩; have HB1 := Aside0.mk hb1; clear hb1))
    go_ret
    rw [hf]
    exact ⟨rfl, (HH.out.move (HB1.out.block g HH.out.lt)).own hkP HC.out.1 HC.out.2.1, gbB _ HB1.out⟩
  · have Hf := Aside0.mk hf
    have d0 : ((k : Int) == -1) = false := beq_eq_false_iff_ne.mpr (by omega)
    have HK := Aside0.mk hk
    clear ho hf hk
    go_enter Try.func51, Try.ntmps51
    go_wp2_with (go_at_call 61; go_loud (refine HI.out.mono ?_; rintro e w1 ⟨rfl, hb1⟩; have HB1 := Aside0.mk hb1; clear hb1))
    have wk : wrap64 ((k : Int) + 1) = ((k + 1 : Nat) : Int) := by have := HK.out; have := HC.out.2.2.1; unfold wrap64; omega
    rw [wk]
    go_loopg [5, 6] es.length (fun gq v5 v6 w' => ∃ (kk j : Nat) (rows : List TPair), v5 = .int .i64 (kk : Int) ∧ v6 = .int .i64 (j : Int) ∧ Aside0 (j ≤ es.length ∧ es.length - j ≤ gq ∧ kk < j ∧ kk = ((es.take j).filter fun y => !p y).length) ∧ Aside0 (Has2 encP w' g 27 cap rows) ∧
      Aside0 (rows.length = es.length ∧ rows.take kk = (es.take j).filter (fun y => !p y) ∧ rows.drop j = es.drop j) ∧ Aside0 (w.grownBy w' (some g)))
    case atStart => exact ⟨k, k + 1, es, rfl, rfl, ⟨by have := HK.out; omega, by omega, by omega, by rw [Hf.out, List.length_take]; have := HK.out; omega⟩, ⟨HH.out.move (HB1.out.block g HH.out.lt)⟩, ⟨rfl, Hf.out.symm, rfl⟩, ⟨gbB _ HB1.out⟩⟩
    case round =>
      obtain ⟨kk, j, rows, rfl, rfl, Hj, HM, Hr, Hgb⟩ := hrel
      by_cases hlt : j < es.length
      · have d1 : (j < es.length) = True := eq_true hlt
        have t1 := eq_true (show (0 : Int) ≤ (j : Int) by omega)
        have t2 := eq_true (show (j : Int) < (es.length : Int) by omega)
        have hjr : j < rows.length := by rw [Hr.out.1]; exact hlt
        have e1 : rows[j] = es[j] := by
          have h1 : (rows.drop j)[0]? = rows[j]? := by rw [List.getElem?_drop]; rfl
          have h2 : (es.drop j)[0]? = es[j]? := by rw [List.getElem?_drop]; rfl
          rw [Hr.out.2.2, h2, List.getElem?_eq_getElem hlt, List.getElem?_eq_getElem hjr] at h1
          exact (Option.some.inj h1).symm
        obtain ⟨c0, c1⟩ := HM.out.cell hkP j hjr (a := .int .i64 es[j].f0) (b := .int .i64 es[j].f1) (by rw [e1]; rfl)
        have Hn : Aside0 ((es.take (j + 1)).filter (fun y => !p y) = (es.take j).filter (fun y => !p y) ++ if p es[j] = true then [] else [es[j]]) := ⟨by
          rw [List.take_add_one, List.getElem?_eq_getElem hlt, List.filter_append]
          congr 1
          cases hq : p es[j] <;> simp [hq]⟩
        have HL3 := Aside0.mk hlt
        generalize es[j] = x at c0 c1 Hn
        obtain ⟨x0, x1⟩ := x
        clear hlt hjr e1
        have HMa := Aside0.mk (HM.out.move ((MapKept.heap_alloc wr (.cells #[.int .i64 x0, .int .i64 x1] 27)).2 _ HM.out.lt))
        have HXa : Aside0 ((wr.alloc (.cells #[.int .i64 x0, .int .i64 x1] 27)).heap[wr.heap.size]? = some (.cells #[.int .i64 x0, .int .i64 x1] 27 (0, 0))) := ⟨blk_newAt _ rfl⟩
        have Hlen := Aside0.mk (congrArg List.length Hn.out)
        have Hcall := Aside0.mk (HP.out (wr.alloc (.cells #[.int .i64 x0, .int .i64 x1] 27)) ⟨x0, x1⟩ (gb_alloc Hgb.out _))
        have Hga := Aside0.mk (gb_alloc Hgb.out (.cells #[.int .i64 x0, .int .i64 x1] 27))
        generalize p { f0 := x0, f1 := x1 } = b2 at Hn Hlen Hcall
        have hkr : kk < rows.length := by have := Hj.out; have := Hr.out.1; have := HL3.out; omega
        have Hkr := Aside0.mk hkr
        clear hkr
        cases b2 with
        | true =>
          go_wp2_with (go_at_call 52; go_loud (refine Hcall.out.mono ?_; rintro e w4 ⟨rfl, hb4⟩; have HB4 := Aside0.mk hb4; clear hb4))
          go_roundg (es.length - (j + 1))
          case measure => have := Hj.out; have := HL3.out; omega
          case rel => exact ⟨kk, j + 1, rows, rfl, by have := HC.out.2.2.1; have := HL3.out; rw [show wrap64 ((j : Int) + 1) = ((j + 1 : Nat) : Int) by unfold wrap64; omega], ⟨HL3.out, Nat.le_refl _, by have := Hj.out; omega, by rw [Hlen.out]; simpa using Hj.out.2.2.2⟩, ⟨HMa.out.move (HB4.out.block g HMa.out.lt)⟩, ⟨Hr.out.1, by rw [Hn.out, if_pos trivial, List.append_nil]; exact Hr.out.2.1, by
            have := congrArg (List.drop 1) Hr.out.2.2
            rw [List.drop_drop, List.drop_drop] at this
            exact this⟩, ⟨gb_trans Hga.out ⟨HB4.out.os, HB4.out.tape, HB4.out.output, HB4.out.size, fun k hk _ => HB4.out.block k hk⟩⟩⟩
        | false =>
          have t5 := eq_true (show (0 : Int) ≤ (kk : Int) by omega)
          have t6 := eq_true (show (kk : Int) < (es.length : Int) by have := Hkr.out; have := Hr.out.1; omega)
          obtain ⟨o0, ho0⟩ : ∃ o, o = (rows[kk]'Hkr.out) := ⟨_, rfl⟩
          go_wp2_with (go_at_call 52; go_loud (refine Hcall.out.mono ?_; rintro e w4 ⟨rfl, hb4⟩; have HB4 := Aside0.mk hb4; have HM4 := Aside0.mk (HMa.out.move (hb4.block g HMa.out.lt)); have HX4 := Aside0.mk ((hb4.block _ (blk_lt HXa.out)).trans HXa.out); obtain ⟨c2, c3⟩ := HM4.out.cell hkP kk Hkr.out (a := .int .i64 o0.f0) (b := .int .i64 o0.f1) (by rw [ho0]; rfl); have f2 := HM4.out.frozen (kk * 2); have f3 := HM4.out.frozen (kk * 2 + 1); have b0 := (blk_cell HX4.out 0).trans (show (#[Value.int .i64 x0, Value.int .i64 x1] : Array Value)[0]? = some (.int .i64 x0) from rfl); have b1 := (blk_cell HX4.out 1).trans (show (#[Value.int .i64 x0, Value.int .i64 x1] : Array Value)[1]? = some (.int .i64 x1) from rfl); clear hb4))
          go_roundg (es.length - (j + 1))
          case measure => have := Hj.out; have := HL3.out; omega
          case rel =>
            have q1 := Hj.out
            have q2 := HC.out.2.2.1
            have q3 := HL3.out
            refine ⟨kk + 1, j + 1, rows.set kk { f0 := x0, f1 := x1 }, by rw [show wrap64 ((kk : Int) + 1) = ((kk + 1 : Nat) : Int) by unfold wrap64; omega], by rw [show wrap64 ((j : Int) + 1) = ((j + 1 : Nat) : Int) by unfold wrap64; omega], ⟨HL3.out, Nat.le_refl _, by omega, by rw [Hlen.out, List.length_append, ← q1.2.2.2]; rfl⟩, ⟨HM4.out.set hkP kk Hkr.out _ rfl⟩, ⟨by rw [List.length_set]; exact Hr.out.1, ?_, ?_⟩, ⟨gb_trans (gb_trans Hga.out ⟨HB4.out.os, HB4.out.tape, HB4.out.output, HB4.out.size, fun k hk _ => HB4.out.block k hk⟩) (gb_setCells [_, _] (kk * 2) w4)⟩⟩
            · rw [take_set_next _ _ _ Hkr.out, Hr.out.2.1, Hn.out, if_neg (by decide)]
            · rw [List.drop_set_of_lt (by omega)]
              have := congrArg (List.drop 1) Hr.out.2.2
              rw [List.drop_drop, List.drop_drop] at this
              exact this
      · have d1 : (j < es.length) = False := eq_false hlt
        have hj : j = es.length := by have := Hj.out; omega
        have hk := Aside0.mk (And.intro Hj.out.2.2.2 Hr.out.2.1)
        rw [hj, List.take_length] at hk
        have hkn : kk < es.length := by have := Hj.out; omega
        have hcp := HC.out.2.2.2
        obtain ⟨vs, hcl⟩ := run_clear2 (P := Try.prog) wr 24 27 (.agg #[.int .i64 0, .int .i64 0]) (.int .i64 0) (.int .i64 0) Try.underlying24 Try.zeroValue27 rfl rfl rfl g (kk * 2) (es.length - kk) (cv - kk) (by omega) (fun j hj => HM.out.has _ (by omega)) (fun j hj => HM.out.frozen _)
        have t1 := eq_true (show (kk : Int) ≤ (es.length : Int) by omega)
        have t2 := eq_true (show kk ≤ cv by omega)
        have t3 : (cv = kk) = False := eq_false (by omega)
        have t4 := eq_true (show (kk : Int) ≤ (cv : Int) by omega)
        clear hlt hj hkn hcp
        go_wp2
        have hf := HM.out.cut hkP kk vs
        rw [hk.out.2] at hf
        have hgb := gb_trans Hgb.out (gb_setCells (g := g) vs (kk * 2) wr)
        go_ret
        exact ⟨by rw [← hk.out.1]; rfl, hf.own hkP HC.out.1 HC.out.2.1, hgb⟩
theorem index_nil (w : World) (fv : Value) :
    Calls Try.prog 61 #[.slice none 0 0, fv] w fun e w' => e = .returned (.int .i64 (-1)) ∧ w' = w := by
  go_enter Try.func61, Try.ntmps61
  go_wp2
  go_loopg [8] 1 (fun gq v8 w' => v8 = .int .i64 0 ∧ w' = w)
  case atStart => exact ⟨rfl, rfl⟩
  case round =>
    obtain ⟨rfl, rfl⟩ := hrel
    go_wp2
    go_ret
    exact ⟨rfl, rfl⟩
theorem delete_nil (w : World) (fv : Value) :
    Calls Try.prog 51 #[.slice none 0 0, fv] w fun e w' => e = .returned (.slice none 0 0) ∧ w' = w := by
  go_enter Try.func51, Try.ntmps51
  go_wp2_with (go_at_call 61; go_loud (refine (index_nil w fv).mono ?_; rintro e w1 ⟨rfl, rfl⟩))
  go_ret
  exact ⟨rfl, rfl⟩
/-- DeleteFunc at a row that sets.Pairs has told -/
theorem delete_own (w : World) (base : Nat) (A : Option Addr) (cap gb : Nat) (es : List TPair) (p : TPair → Bool) (hl : es.length ≤ 1000000000) (ho : PairRow w base (.slice A es.length cap) es)
    (hp : ∀ g : Nat, base ≤ g → ∀ (W : World) (x : TPair), w.grownBy W (some g) → Calls Try.prog 52 #[.agg #[.int .i64 x.f0, .int .i64 x.f1], .pointer (some ⟨gb, 0, none⟩)] W fun e w' => e = .returned (.bool (p x)) ∧ Below W.heap.size W w') :
    Calls Try.prog 51 #[.slice A es.length es.length, .func (.func 52) #[] #[.pointer (some ⟨gb, 0, none⟩)]] w fun e w' => ∃ c c', e = .returned (.slice A (es.filter fun y => !p y).length c) ∧
      PairRow w' base (.slice A (es.filter fun y => !p y).length c') (es.filter fun y => !p y) ∧ Below base w w' := by
  rcases row_nil ho with ⟨h1, h2⟩ | ⟨g, cap', h1⟩
  · injection h1 with h1 h3 h4
    subst h1 h2
    refine (delete_nil w _).mono ?_
    rintro e w' ⟨rfl, rfl⟩
    exact ⟨0, 0, rfl, World.ownsRow_nil _ _ _ _, Below.refl _ _⟩
  · injection h1 with h1 h3 h4
    subst h1
    obtain ⟨g', cur, hg', hb, hg, hnc, hcm, hsz, htk⟩ := row_block ho
    cases hg'
    refine (delete_pair w base g cap es.length gb es p hl (Nat.le_refl _) hnc ho (hp g hb)).mono ?_
    rintro e w' ⟨rfl, hr, hgb⟩
    exact ⟨_, _, rfl, hr, ⟨hgb.os, hgb.tape, hgb.output, hgb.size, fun k hk => hgb.block k (Nat.lt_of_lt_of_le hk (Nat.le_trans hb (Nat.le_of_lt (blk_lt hg)))) (nes (by omega))⟩⟩

theorem below_then' {B C : Nat} {w w1 w2 : World} (h : Below B w w1) (k : Below C w1 w2) (hC : B ≤ C) : Below B w w2 := ⟨k.os.trans h.os, k.tape.trans h.tape, k.output.trans h.output, Nat.le_trans h.size k.size, fun i hi => (k.block i (by omega)).trans (h.block i hi)⟩
theorem both_hp {base m c1 : Nat} {w1 w3 : World} {B1 : Option Addr} {b : List TPair} (hr : PairRow w1 base (.slice B1 (onceC cmpPair b).length c1) (onceC cmpPair b)) (hb : Below (w1.alloc (.cells #[.slice B1 (onceC cmpPair b).length m] 24)).heap.size (w1.alloc (.cells #[.slice B1 (onceC cmpPair b).length m] 24)) w3) (hl : (onceC cmpPair b).length ≤ 1000000000) :
    ∀ g : Nat, (w1.alloc (.cells #[.slice B1 (onceC cmpPair b).length m] 24)).heap.size ≤ g → ∀ (W : World) (x : TPair), w3.grownBy W (some g) → Calls Try.prog 52 #[.agg #[.int .i64 x.f0, .int .i64 x.f1], .pointer (some ⟨w1.heap.size, 0, none⟩)] W fun e w' => e = .returned (.bool (notIn (onceC cmpPair b) x)) ∧ Below W.heap.size W w' := by
  intro g hg W x hW
  have hbx : (w1.alloc (.cells #[.slice B1 (onceC cmpPair b).length m] 24)).heap[w1.heap.size]? = some (.cells #[.slice B1 (onceC cmpPair b).length m] 24 (0, 0)) := blk_newAt _ rfl
  have hlt := blk_lt hbx
  have h3 := (hb.block _ hlt).trans hbx
  have hR := Kd.R_mono (ok' := fun k => k < w1.heap.size) (Kd.R_bound (pairs_R hr)) (fun k hk => hk.2.2.1)
  have hR3 := Kd.R_below (Kd.R_alloc hR (.cells #[.slice B1 (onceC cmpPair b).length m] 24)) hb
  have hR4 := Kd.R_grown hR3 hW (fun k hk e => by
    have : k = g := by simpa using e
    rw [size_alloc] at hg
    omega)
  exact both1 w1.heap.size B1 _ (onceC cmpPair b) x W ((hW.block _ (blk_lt h3) (nes (by omega))).trans h3) (Kd.R_reads' hR4).2.2 (totalPair.once_sorted b) hl
def bothL (a b : List TPair) : List TPair := (onceC cmpPair a).filter fun y => (onceC cmpPair b).any fun z => eqP z y
theorem once_len {cmp : TPair → TPair → Int} (T : TotalCmp cmp) (l : List TPair) : (onceC cmp l).length ≤ l.length := by
  have hn : (onceC cmp l).Nodup := List.Pairwise.imp (fun {a b} hab e => by subst e; have := T.self a; omega) (T.once_sorted l)
  exact List.Nodup.length_le_of_subset hn (fun x hx => T.mem_once.1 hx)
set_option maxHeartbeats 4000000 in
set_option maxRecDepth 100000 in
theorem both_calls (A : Option Addr) (ca : Nat) (a : List TPair) (B : Option Addr) (cb : Nat) (b : List TPair) (w : World) (hra : Kd.C k27 w A a.length a) (hrb : Kd.C k27 w B b.length b) (hla : a.length ≤ 1000000000) (hlb : b.length ≤ 1000000000) :
    Calls Try.prog 35 #[.slice A a.length ca, .slice B b.length cb] w fun e w' => ∃ v0_ : Value, e = .returned v0_ ∧ Kd.R k27 27 w' w.heap.size (fun _ => True) v0_ (bothL a b) ∧ Below w.heap.size w w' := by
  have HRa := Aside0.mk hra
  have HRb := Aside0.mk hrb
  have HLa := Aside0.mk hla
  have HLb := Aside0.mk hlb
  have tok1 : True := trivial
  clear hra hrb hla hlb
  go_enter Try.func35, Try.ntmps35
  have hlo := once_len totalPair
  have HLo := Aside0.mk hlo
  clear hlo
  have W2 : ∀ (w1 : World) (v : Value), w1.heap.size ≤ (w1.alloc (.cells #[v] 24)).heap.size := fun w1 v => by rw [size_alloc]; omega
  have HW2 := Aside0.mk W2
  clear W2
  go_wp2_with (first
    | (go_at_call 16; clear tok1; go_loud (refine (pairs_own B cb b w HRb.out HLb.out).mono ?_; rintro e w1 ⟨B1, c1, rfl, hr1, hb1⟩; have Hr1 := Aside0.mk hr1; have Hb1 := Aside0.mk hb1; have tok2 : True := trivial; clear hr1 hb1))
    | (go_at_call 16; clear tok2; go_loud (refine (pairs_own A ca a _ (Kd.C_below (Kd.C_below HRa.out Hb1.out) (below_alloc (Below.refl _ _) _)) HLa.out).mono ?_; rintro e w3 ⟨A3, c3, rfl, hr3, hb3⟩; have Hr3 := Aside0.mk hr3; have Hb3 := Aside0.mk hb3; clear hr3 hb3))
    | (go_at_call 51; go_loud (refine (delete_own w3 _ A3 c3 w1.heap.size (onceC cmpPair a) (notIn (onceC cmpPair b)) (Nat.le_trans (HLo.out a) HLa.out) Hr3.out (both_hp Hr1.out Hb3.out (Nat.le_trans (HLo.out b) HLb.out))).mono ?_; rintro e w4 ⟨c4, c5, rfl, hr4, hb4⟩; have Hr4 := Aside0.mk hr4; have Hb4 := Aside0.mk hb4; clear hr4 hb4))
    | (go_at_call 43; go_loud (refine (clone_pair A3 c4 _ w4 (Kd.R_reads' (pairs_R Hr4.out)).2.2 (Nat.le_trans (List.length_filter_le _ _) (Nat.le_trans (HLo.out a) HLa.out))).mono ?_; rintro e w5 ⟨v5, rfl, hr5, hb5⟩; have Hr5 := Aside0.mk hr5; have Hb5 := Aside0.mk hb5; clear hr5 hb5)))
  go_ret
  have e : (onceC cmpPair a).filter (fun y => !notIn (onceC cmpPair b) y) = bothL a b := by
    unfold bothL notIn
    simp only [Bool.not_not]
  have s1 := HW2.out w1 (.slice B1 (onceC cmpPair b).length (onceC cmpPair b).length)
  have b2 := below_alloc Hb1.out (.cells #[.slice B1 (onceC cmpPair b).length (onceC cmpPair b).length] 24)
  have b3 := below_then b2 b2.size Hb3.out
  have b4 : Below w.heap.size w w4 := below_then' b3 Hb4.out b2.size
  rw [e] at Hr5
  exact ⟨v5, rfl, Kd.R_mono (Kd.R_lower (pairs_R Hr5.out) b4.size) (fun _ _ => trivial), below_then b4 b4.size Hb5.out⟩
def sets_Both.f (l0 l1 : List TPair) : Option (List TPair) := if l0.length ≤ 1000000000 ∧ l1.length ≤ 1000000000 then some (bothL l0 l1) else none
theorem sets_Both.calls (A0 : Option Addr) (c0 : Nat) (l0 : List TPair) (A1 : Option Addr) (c1 : Nat) (l1 : List TPair) (r : List TPair) (w : World) (hr0 : Kd.C k27 w A0 l0.length l0) (hc0 : l0.length ≤ c0) (hr1 : Kd.C k27 w A1 l1.length l1) (hc1 : l1.length ≤ c1) (h : sets_Both.f l0 l1 = some r) :
    Calls Try.prog 35 #[.slice A0 l0.length c0, .slice A1 l1.length c1] w fun e w' => ∃ v0_ : Value, e = .returned v0_ ∧ Kd.R k27 27 w' w.heap.size (fun _ => True) v0_ r ∧ Below w.heap.size w w' := by
  unfold sets_Both.f at h
  split at h
  case isFalse => cases h
  rename_i hl
  obtain rfl := Option.some.inj h
  exact both_calls A0 c0 l0 A1 c1 l1 w hr0 hr1 hl.1 hl.2
end Go.Proofs.Ytmkpfamngedcmaa.P
