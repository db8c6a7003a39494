/- What canopylaw4.few, within tell: a front of a word with no more than so many opening symbols. The places of a machine behind a word, step by step; what runs.Takes tells is told by them. -/
import Derived.Test.YtjkhdldgmkkhjaaUSyms
import Derived.Test.YtjkhdldgmkkhjaaPCanopylaw4Few
import Derived.Test.YtjkhdldgmkkhjaaPCanopylaw4Within
import Derived.Test.YtjkhdldgmkkhjaaSOrder
import Derived.Test.YtjkhdldgmkkhjaaUMake
set_option linter.unusedVariables false
set_option linter.unusedSimpArgs false
namespace Go.Proofs.Ytjkhdldgmkkhjaa.P
open Go.RowKit Go.Proofs.YtjkhdldgmkkhjaaW.PrintWords Go.Proofs.YtjkhdldgmkkhjaaW.PrintLast Go.Proofs.YtjkhdldgmkkhjaaW.PrintMore

theorem within4_eq {a n : Int} (h : 0 < n) (hn : n < 4611686018427387904) : canopylaw4_within.f a n = some (a % n) := within_go h hn
def fewL (l : List SSym) (most : Int) : List Int → Int → List Int
  | [], _ => []
  | x :: w, n =>
    if (rd_T46 l x).f1 = 1 then (if n + 1 > most then [] else x :: fewL l most w (n + 1)) else (if n > most then [] else x :: fewL l most w n)
theorem rd_at {w : List Int} {i : Int} (h0 : 0 ≤ i) (h1 : i < w.length) : w.drop i.toNat = rd w i :: w.drop (i + 1).toNat := by
  rw [List.drop_eq_getElem_cons (by omega), show (i + 1).toNat = i.toNat + 1 by omega]
  congr 1
  unfold rd
  rw [List.getD_eq_getElem?_getD, List.getElem?_eq_getElem (by omega)]
  rfl
theorem rd_in {P : Int → Prop} {w : List Int} (h : ∀ x ∈ w, P x) {i : Int} (h0 : 0 ≤ i) (h1 : i < w.length) : P (rd w i) := by
  refine h _ ?_
  unfold rd
  rw [List.getD_eq_getElem?_getD, List.getElem?_eq_getElem (by omega)]
  exact List.getElem_mem _
theorem few_loop {l : List SSym} (w : List Int) (hw : w.length ≤ 1000000) (hs : ∀ x ∈ w, 0 ≤ x ∧ x < l.length) (most : Int) (hm : most ≤ 1000) : ∀ (d : Nat) (i : Int), 0 ≤ i → i ≤ w.length → w.length - i = d → ∀ n : Int, 0 ≤ n → n ≤ i → ∀ k, d < k →
    canopylaw4_few.l0 k l w most n i = some (w.take i.toNat ++ fewL l most (w.drop i.toNat) n)
  | d, i, h0, h1, hd, n, n0, n1, k + 1, hk => by
    unfold canopylaw4_few.l0
    by_cases c1 : i < (w.length : Int)
    · obtain ⟨d, rfl⟩ : ∃ e, d = e + 1 := ⟨d - 1, by omega⟩
      have hx := rd_in hs h0 c1
      have wn : wrap64 (n + 1) = n + 1 := wrap_id (by omega) (by omega)
      have wi : wrap64 (i + 1) = i + 1 := wrap_id (by omega) (by omega)
      rw [if_pos c1, if_pos h0, if_pos hx.1, if_pos hx.2, rd_at h0 c1, wn, wi]
      unfold fewL
      have ih := fun n n0 n1 => few_loop w hw hs most hm d (i + 1) (by omega) (by omega) (by omega) n n0 n1 k (by omega)
      have e : ∀ n, w.take i.toNat ++ rd w i :: fewL l most (w.drop (i + 1).toNat) n = w.take (i + 1).toNat ++ fewL l most (w.drop (i + 1).toNat) n := fun n => by
        rw [take_last w i h0 c1, List.append_assoc]; rfl
      by_cases c2 : (rd_T46 l (rd w i)).f1 = 1
      · rw [if_pos c2, if_pos c2]
        by_cases c3 : n + 1 > most
        · rw [if_pos c3, if_pos c3, if_pos (by omega), List.append_nil]
        · rw [if_neg c3, if_neg c3, e]
          exact ih (n + 1) (by omega) (by omega)
      · rw [if_neg c2, if_neg c2]
        by_cases c3 : n > most
        · rw [if_pos c3, if_pos c3, if_pos (by omega), List.append_nil]
        · rw [if_neg c3, if_neg c3, e]
          exact ih n (by omega) (by omega)
    · rw [if_neg c1, List.drop_of_length_le (by omega), List.take_of_length_le (by omega)]
      simp [fewL]
theorem few_eq {l : List SSym} (w : List Int) (hw : w.length ≤ 1000) (hs : ∀ x ∈ w, 0 ≤ x ∧ x < l.length) (most : Int) (hm : most ≤ 1000) (k : Nat) (hk : 1000 < k) : canopylaw4_few.f k l w most = some (fewL l most w 0) := by
  have := few_loop w (by omega) hs most hm w.length 0 (by omega) (by omega) (by omega) 0 (by omega) (by omega) k (by omega)
  rw [show (0 : Int).toNat = 0 from rfl, List.take_zero, List.drop_zero, List.nil_append] at this
  exact this
theorem few_sub {l : List SSym} {most : Int} : ∀ {w : List Int} {n : Int}, ∃ v, w = fewL l most w n ++ v
  | [], n => ⟨[], rfl⟩
  | x :: w, n => by
    unfold fewL
    split
    · split
      · exact ⟨_, rfl⟩
      · obtain ⟨v, h⟩ := few_sub (l := l) (most := most) (w := w) (n := n + 1)
        exact ⟨v, by rw [List.cons_append, ← h]⟩
    · split
      · exact ⟨_, rfl⟩
      · obtain ⟨v, h⟩ := few_sub (l := l) (most := most) (w := w) (n := n)
        exact ⟨v, by rw [List.cons_append, ← h]⟩
theorem few_mem {l : List SSym} {most n : Int} {w : List Int} {P : Int → Prop} (h : ∀ x ∈ w, P x) : ∀ x ∈ fewL l most w n, P x := fun x hx => by
  obtain ⟨v, e⟩ := few_sub (l := l) (most := most) (w := w) (n := n)
  exact h x (by rw [e]; exact List.mem_append_left _ hx)
theorem few_len {l : List SSym} {most n : Int} {w : List Int} : (fewL l most w n).length ≤ w.length := by
  obtain ⟨v, e⟩ := few_sub (l := l) (most := most) (w := w) (n := n)
  have := congrArg List.length e
  rw [List.length_append] at this
  omega
def opensIn (l : List SSym) : List Int → Nat
  | [] => 0
  | x :: w => (if (rd_T46 l x).f1 = 1 then 1 else 0) + opensIn l w
theorem few_opens {l : List SSym} {most : Int} : ∀ {w : List Int} {n : Int}, n ≤ most → opensIn l (fewL l most w n) + n ≤ most
  | [], n, h => by simp [fewL, opensIn]; omega
  | x :: w, n, h => by
    unfold fewL
    split
    · split
      · simp [opensIn]; omega
      · rename_i h1 h2
        have := few_opens (l := l) (most := most) (w := w) (n := n + 1) (by omega)
        simp only [opensIn, if_pos h1]
        omega
    · split
      · simp [opensIn]; omega
      · rename_i h1 h2
        have := few_opens (l := l) (most := most) (w := w) (n := n) (by omega)
        simp only [opensIn, if_neg h1]
        omega
theorem opens_take (l : List SSym) : ∀ (w : List Int) (k : Nat), opensIn l (w.take k) ≤ opensIn l w
  | [], k => by simp [opensIn]
  | x :: w, 0 => by simp [opensIn]
  | x :: w, k + 1 => by
    have := opens_take l w k
    simp only [List.take_succ_cons, opensIn]
    omega
end Go.Proofs.Ytjkhdldgmkkhjaa.P
set_option linter.unusedVariables false
set_option linter.unusedSimpArgs false
namespace Go.Proofs.Ytjkhdldgmkkhjaa.P
open Go.RowKit Go.Proofs.YtjkhdldgmkkhjaaW.PrintWords Go.Proofs.YtjkhdldgmkkhjaaW.PrintLast Go.Proofs.YtjkhdldgmkkhjaaW.PrintMore Go.Proofs.Ytjkhdldgmkkhjaa.M

theorem mem_start {init : List Int} {x : TAt} : x ∈ startL init ↔ x.f0 ∈ init ∧ x.f1 = [] := by
  unfold startL
  rw [totalAt.mem_once, List.mem_map]
  constructor
  · rintro ⟨s, hs, rfl⟩; exact ⟨hs, rfl⟩
  · rintro ⟨h1, h2⟩; exact ⟨x.f0, h1, by cases x; simp at h2; rw [h2]⟩
theorem mem_step {l : List TSym} {os : List TOpen} {cs : List TClose} {is : List TInner} {at_ : List TAt} {s : Int} (hs : 0 ≤ s ∧ s < l.length) {y : TAt} :
    y ∈ stepL l os cs is at_ s ↔ ∃ x ∈ at_, y ∈ moveL os cs is (rd_T46 l s).f1 s x := by
  unfold stepL
  rw [if_pos hs, totalAt.mem_once, List.mem_flatMap]
theorem mem_open {os : List TOpen} {x y : TAt} {s : Int} : y ∈ openL os x s ↔ ∃ o ∈ os, (o.f0 = x.f0 ∧ o.f1 = s) ∧ y = ⟨o.f2, o.f3 :: x.f1⟩ := by
  simp only [openL, List.mem_map, List.mem_filter, decide_eq_true_eq]
  constructor
  · rintro ⟨o, ⟨h1, h2⟩, rfl⟩; exact ⟨o, h1, h2, rfl⟩
  · rintro ⟨o, h1, h2, rfl⟩; exact ⟨o, ⟨h1, h2⟩, rfl⟩
theorem mem_close {cs : List TClose} {x y : TAt} {s : Int} : y ∈ closeL cs x s ↔ ∃ c ∈ cs, (c.f0 = x.f0 ∧ c.f1 = s ∧ c.f2 = x.f1.headD 0) ∧ y = ⟨c.f3, x.f1.tail⟩ := by
  simp only [closeL, List.mem_map, List.mem_filter, decide_eq_true_eq]
  constructor
  · rintro ⟨o, ⟨h1, h2⟩, rfl⟩; exact ⟨o, h1, h2, rfl⟩
  · rintro ⟨o, h1, h2, rfl⟩; exact ⟨o, ⟨h1, h2⟩, rfl⟩
theorem mem_inner {is : List TInner} {x y : TAt} {s : Int} : y ∈ innerL is x s ↔ ∃ r ∈ is, (r.f0 = x.f0 ∧ r.f1 = s) ∧ y = ⟨r.f2, x.f1⟩ := by
  simp only [innerL, List.mem_map, List.mem_filter, decide_eq_true_eq]
  constructor
  · rintro ⟨o, ⟨h1, h2⟩, rfl⟩; exact ⟨o, h1, h2, rfl⟩
  · rintro ⟨o, h1, h2, rfl⟩; exact ⟨o, ⟨h1, h2⟩, rfl⟩
def sortedAt (l : List TAt) : Prop := l.Pairwise fun x y => cmpAt x y < 0
theorem sorted_nodup {l : List TAt} (h : sortedAt l) : l.Nodup := List.Pairwise.imp (fun {a b} hab e => by
  subst e
  have := totalAt.self a
  omega) h
theorem start_sorted (init : List Int) : sortedAt (startL init) := totalAt.once_sorted _
theorem step_sorted {l : List TSym} {os : List TOpen} {cs : List TClose} {is : List TInner} {at_ : List TAt} {s : Int} : sortedAt (stepL l os cs is at_ s) := by
  unfold stepL
  split
  · exact totalAt.once_sorted _
  · exact List.Pairwise.nil
def runL (l : List TSym) (os : List TOpen) (cs : List TClose) (is : List TInner) (at_ : List TAt) (w : List Int) : List TAt := w.foldl (stepL l os cs is) at_
theorem run_sorted {l : List TSym} {os : List TOpen} {cs : List TClose} {is : List TInner} : ∀ (w : List Int) {at_ : List TAt}, sortedAt at_ → sortedAt (runL l os cs is at_ w)
  | [], _, h => h
  | s :: w, at_, h => run_sorted w (at_ := stepL l os cs is at_ s) step_sorted
theorem run_snoc {l : List TSym} {os : List TOpen} {cs : List TClose} {is : List TInner} (w : List Int) (s : Int) (at_ : List TAt) : runL l os cs is at_ (w ++ [s]) = stepL l os cs is (runL l os cs is at_ w) s := by
  simp [runL]

/-! the places are few -/
structure ConfOk (N G : Int) (d : Nat) (x : TAt) : Prop where
  s : 0 ≤ x.f0 ∧ x.f0 < N
  d : x.f1.length = d
  g : ∀ m ∈ x.f1, 1 ≤ m ∧ m ≤ G
def dNext (kind : Int) (d : Nat) : Nat := if kind = 1 then d + 1 else if kind = 2 then d - 1 else d
def dRun (l : List TSym) : List Int → Nat → Nat
  | [], d => d
  | s :: w, d => dRun l w (dNext (rd_T46 l s).f1 d)
theorem dRun_le (l : List TSym) : ∀ (w : List Int) (d : Nat), dRun l w d ≤ d + opensIn l w
  | [], d => by simp [dRun]
  | s :: w, d => by
    have := dRun_le l w (dNext (rd_T46 l s).f1 d)
    simp only [dRun, opensIn]
    by_cases k1 : (rd_T46 l s).f1 = 1
    · have e : dNext (rd_T46 l s).f1 d = d + 1 := by unfold dNext; rw [if_pos k1]
      rw [e] at this ⊢
      rw [if_pos k1]
      omega
    · have e : dNext (rd_T46 l s).f1 d ≤ d := by unfold dNext; rw [if_neg k1]; split <;> omega
      rw [if_neg k1]
      omega
theorem dRun_snoc (l : List TSym) (s : Int) : ∀ (w : List Int) (d : Nat), dRun l (w ++ [s]) d = dNext (rd_T46 l s).f1 (dRun l w d)
  | [], d => rfl
  | x :: w, d => dRun_snoc l s w _
theorem conf_start {init : List Int} {N G : Int} (h : ∀ s ∈ init, 0 ≤ s ∧ s < N) : ∀ x ∈ startL init, ConfOk N G 0 x := fun x hx => by
  obtain ⟨h1, h2⟩ := mem_start.1 hx
  exact ⟨h _ h1, by rw [h2]; rfl, by rw [h2]; simp⟩
theorem conf_step {l : List TSym} {N G : Int} {st : MSt} (I : MkInv l N G st) {at_ : List TAt} {d : Nat} (h : ∀ x ∈ at_, ConfOk N G d x) {s : Int} (hs : 0 ≤ s ∧ s < l.length) :
    ∀ y ∈ stepL l st.o st.c st.n at_ s, ConfOk N G (dNext (rd_T46 l s).f1 d) y := fun y hy => by
  obtain ⟨x, hx, hm⟩ := (mem_step hs).1 hy
  obtain ⟨a1, a2, a3⟩ := h x hx
  unfold moveL at hm
  unfold dNext
  by_cases k1 : (rd_T46 l s).f1 = 1
  · rw [if_pos k1] at hm ⊢
    obtain ⟨o, ho, hc, rfl⟩ := mem_open.1 hm
    obtain ⟨_, _, b3, b4⟩ := I.o o ho
    exact ⟨b3, by simp [a2], fun m hm => by
      rcases List.mem_cons.1 hm with rfl | h
      · exact b4
      · exact a3 m h⟩
  rw [if_neg k1] at hm ⊢
  by_cases k2 : (rd_T46 l s).f1 = 2
  · rw [if_pos k2] at hm ⊢
    obtain ⟨o, ho, hc, rfl⟩ := mem_close.1 hm
    obtain ⟨_, _, _, b4⟩ := I.c o ho
    exact ⟨b4, by simp [a2], fun m hm => a3 m (List.mem_of_mem_tail hm)⟩
  rw [if_neg k2] at hm ⊢
  obtain ⟨o, ho, hc, rfl⟩ := mem_inner.1 hm
  obtain ⟨_, _, b3⟩ := I.n o ho
  exact ⟨b3, a2, a3⟩
theorem conf_run {l : List TSym} {N G : Int} {st : MSt} (I : MkInv l N G st) : ∀ (w : List Int) {at_ : List TAt} {d : Nat}, (∀ x ∈ at_, ConfOk N G d x) → (∀ s ∈ w, 0 ≤ s ∧ s < l.length) →
    ∀ y ∈ runL l st.o st.c st.n at_ w, ConfOk N G (dRun l w d) y
  | [], _, _, h, _ => h
  | s :: w, at_, d, h, hw => conf_run I w (conf_step I h (hw s List.mem_cons_self)) (fun x hx => hw x (List.mem_cons_of_mem _ hx))
def stacksOf (G : Nat) : Nat → List (List Int)
  | 0 => [[]]
  | d + 1 => (List.range G).flatMap fun (m : Nat) => (stacksOf G d).map fun s => ((m : Int) + 1) :: s
theorem stacks_len (G : Nat) : ∀ d, (stacksOf G d).length = G ^ d
  | 0 => rfl
  | d + 1 => by
    have : ∀ n : Nat, ((List.range n).flatMap fun (m : Nat) => (stacksOf G d).map fun s => ((m : Int) + 1) :: s).length = n * G ^ d := fun n => by
      induction n with
      | zero => simp
      | succ n ih => rw [List.range_succ, List.flatMap_append, List.length_append, ih]; simp [stacks_len G d, Nat.succ_mul]
    rw [stacksOf, this, Nat.pow_succ, Nat.mul_comm]
theorem mem_stacks {G : Nat} : ∀ {d : Nat} {s : List Int}, s.length = d → (∀ m ∈ s, 1 ≤ m ∧ m ≤ (G : Int)) → s ∈ stacksOf G d
  | 0, s, h, _ => by
    rw [List.length_eq_zero_iff.1 h]; simp [stacksOf]
  | d + 1, [], h, _ => by simp at h
  | d + 1, m :: s, h, hm => by
    obtain ⟨h1, h2⟩ := hm m List.mem_cons_self
    rw [stacksOf, List.mem_flatMap]
    refine ⟨(m - 1).toNat, List.mem_range.2 (by omega), List.mem_map.2 ⟨s, mem_stacks (by simpa using h) (fun x hx => hm x (List.mem_cons_of_mem _ hx)), ?_⟩⟩
    rw [show (((m - 1).toNat : Nat) : Int) + 1 = m by omega]
theorem conf_few {N G : Int} (hN : 0 ≤ N) (hG : 0 ≤ G) {d : Nat} {at_ : List TAt} (hs : sortedAt at_) (h : ∀ x ∈ at_, ConfOk N G d x) : at_.length ≤ N.toNat * G.toNat ^ d := by
  have hl : ∀ n : Nat, ((List.range n).flatMap fun (q : Nat) => (stacksOf G.toNat d).map fun s => (⟨(q : Int), s⟩ : TAt)).length = n * G.toNat ^ d := fun n => by
    induction n with
    | zero => simp
    | succ n ih => rw [List.range_succ, List.flatMap_append, List.length_append, ih]; simp [stacks_len, Nat.succ_mul]
  rw [← hl]
  refine List.Nodup.length_le_of_subset (sorted_nodup hs) (fun x hx => ?_)
  obtain ⟨a1, a2, a3⟩ := h x hx
  rw [List.mem_flatMap]
  refine ⟨x.f0.toNat, List.mem_range.2 (by omega), List.mem_map.2 ⟨x.f1, mem_stacks a2 (fun m hm => by have := a3 m hm; omega), ?_⟩⟩
  rw [show ((x.f0.toNat : Nat) : Int) = x.f0 by omega]
theorem step_ok {N G : Int} (hN : 0 ≤ N) (hN4 : N ≤ 4) (hG : 0 ≤ G) (hG2 : G ≤ 2) {d : Nat} (hd : d ≤ 14) {at_ : List TAt} (hs : sortedAt at_) (h : ∀ x ∈ at_, ConfOk N G d x) {st : MSt} (L : MkLen st 24) : stepOk st.o st.c st.n at_ := by
  obtain ⟨_, _, l1, l2, l3⟩ := L
  have h1 := conf_few hN hG hs h
  have h2 : G.toNat ^ d ≤ 2 ^ 14 := Nat.le_trans (Nat.pow_le_pow_left (show G.toNat ≤ 2 by omega) d) (Nat.pow_le_pow_right (by omega) hd)
  have h3 : N.toNat * G.toNat ^ d ≤ 4 * 2 ^ 14 := Nat.mul_le_mul (by omega) h2
  refine ⟨?_, fun x hx => by have := (h x hx).d; omega⟩
  have : (at_.length + 1) * (st.o.length + st.c.length + st.n.length + 1) ≤ 65537 * 73 := Nat.mul_le_mul (by omega) (by omega)
  omega

/-! rows of pairs against places -/
def Und (os : List TOpen) : Int → List (Row × Int) → Int → List Int → Prop
  | _, [], _, st => st = []
  | by_, u :: rest, p, st => ∃ o ∈ os, o.f1 = by_ ∧ o.f2 = p ∧ ∃ st', st = o.f3 :: st' ∧ ∃ p1, (p1, o.f0) ∈ u.1 ∧ Und os u.2 rest p1 st'
def Rep (os : List TOpen) (row : Row) (by_ : Int) (under : List (Row × Int)) (x : TAt) : Prop := ∃ p, (p, x.f0) ∈ row ∧ Und os by_ under p x.f1
def Live (os : List TOpen) : Row → Int → List (Row × Int) → Prop
  | _, _, [] => True
  | row, by_, u :: rest => (∀ p q, (p, q) ∈ row → ∃ st, Und os by_ (u :: rest) p st) ∧ Live os u.1 u.2 rest
theorem Live.all {os : List TOpen} {row : Row} {by_ : Int} {under : List (Row × Int)} (h : Live os row by_ under) : ∀ p q, (p, q) ∈ row → ∃ st, Und os by_ under p st := by
  cases under with
  | nil => exact fun p q _ => ⟨[], rfl⟩
  | cons u rest => exact h.1
theorem Live.sub {os : List TOpen} {row row' : Row} {by_ : Int} {under : List (Row × Int)} (h : Live os row by_ under) (s : ∀ p q, (p, q) ∈ row' → ∃ q', (p, q') ∈ row) : Live os row' by_ under := by
  cases under with
  | nil => trivial
  | cons u rest => exact ⟨fun p q hp => by obtain ⟨q', h'⟩ := s p q hp; exact h.1 p q' h', h.2⟩
theorem mem_nOpen {os : List TOpen} {k : Int} {row : Row} {p q : Int} : (p, q) ∈ nOpen os k row ↔ ∃ p0, ∃ o ∈ os, (p0, o.f0) ∈ row ∧ o.f1 = k ∧ p = o.f2 ∧ q = o.f2 := by
  simp only [nOpen, List.mem_flatMap, List.mem_filterMap]
  constructor
  · rintro ⟨⟨p0, q0⟩, h, r, hr, h2⟩
    split at h2
    · rename_i hc
      injection h2 with h2
      injection h2 with h3 h4
      exact ⟨p0, r, hr, by rw [hc.1]; exact h, hc.2, h3.symm, h4.symm⟩
    · cases h2
  · rintro ⟨p0, o, ho, h, hk, rfl, rfl⟩
    exact ⟨(p0, o.f0), h, o, ho, by rw [if_pos ⟨rfl, hk⟩]⟩
theorem mem_nClose {cs : List TClose} {k : Int} {row : Row} {p q : Int} : (p, q) ∈ nClose cs k row ↔ ∃ c ∈ cs, (p, c.f0) ∈ row ∧ c.f1 = k ∧ c.f2 = 0 ∧ q = c.f3 := by
  simp only [nClose, List.mem_flatMap, List.mem_filterMap]
  constructor
  · rintro ⟨⟨p0, q0⟩, h, r, hr, h2⟩
    split at h2
    · rename_i hc
      injection h2 with h2
      injection h2 with h3 h4
      subst h3
      exact ⟨r, hr, by rw [hc.1]; exact h, hc.2.1, hc.2.2, h4.symm⟩
    · cases h2
  · rintro ⟨o, ho, h, hk, h0, rfl⟩
    exact ⟨(p, o.f0), h, o, ho, by rw [if_pos ⟨rfl, hk, h0⟩]⟩
theorem mem_nInner {is : List TInner} {k : Int} {row : Row} {p q : Int} : (p, q) ∈ nInner is k row ↔ ∃ r ∈ is, (p, r.f0) ∈ row ∧ r.f1 = k ∧ q = r.f2 := by
  simp only [nInner, List.mem_flatMap, List.mem_filterMap]
  constructor
  · rintro ⟨⟨p0, q0⟩, h, r, hr, h2⟩
    split at h2
    · rename_i hc
      injection h2 with h2
      injection h2 with h3 h4
      subst h3
      exact ⟨r, hr, by rw [hc.1]; exact h, hc.2, h4.symm⟩
    · cases h2
  · rintro ⟨o, ho, h, hk, rfl⟩
    exact ⟨(p, o.f0), h, o, ho, by rw [if_pos ⟨rfl, hk⟩]⟩
theorem mem_nBack {os : List TOpen} {cs : List TClose} {k by_ : Int} {under row : Row} {p q : Int} : (p, q) ∈ nBack os cs k by_ under row ↔ ∃ o ∈ os, ∃ c ∈ cs, (p, o.f0) ∈ under ∧ o.f1 = by_ ∧ c.f1 = k ∧ c.f2 = o.f3 ∧ (o.f2, c.f0) ∈ row ∧ q = c.f3 := by
  simp only [nBack, List.mem_flatMap, List.mem_filterMap, List.mem_filter, decide_eq_true_eq]
  constructor
  · rintro ⟨⟨p0, q0⟩, h, o, ⟨ho, ho1, ho2⟩, c, hc, h2⟩
    split at h2
    · rename_i hh
      injection h2 with h2
      injection h2 with h3 h4
      subst h3
      exact ⟨o, ho, c, hc, by rw [ho1]; exact h, ho2, hh.1, hh.2.1, hh.2.2, h4.symm⟩
    · cases h2
  · rintro ⟨o, ho, c, hc, h, h1, h2, h3, h4, rfl⟩
    exact ⟨(p, o.f0), h, o, ⟨ho, rfl, h1⟩, c, hc, by rw [if_pos ⟨h2, h3, h4⟩]⟩
theorem goT_rep {l : List TSym} {os : List TOpen} {cs : List TClose} {is : List TInner} : ∀ (w : List Int), (∀ s ∈ w, 0 ≤ s ∧ s < l.length) → ∀ {row : Row} {by_ : Int} {under : List (Row × Int)} {at_ : List TAt}, (∀ x, x ∈ at_ ↔ Rep os row by_ under x) → Live os row by_ under →
    ∃ row', goT l os cs is w row by_ under = some row' ∧ ∀ q, (∃ p, (p, q) ∈ row') ↔ ∃ x ∈ runL l os cs is at_ w, x.f0 = q
  | [], _, row, by_, under, at_, h, hl => by
    refine ⟨row, by rw [goT.eq_def], fun q => ⟨?_, ?_⟩⟩
    · rintro ⟨p, hp⟩
      obtain ⟨st, hst⟩ := hl.all p q hp
      exact ⟨⟨q, st⟩, (h _).2 ⟨p, hp, hst⟩, rfl⟩
    · rintro ⟨x, hx, rfl⟩
      obtain ⟨p, hp, _⟩ := (h x).1 hx
      exact ⟨p, hp⟩
  | s :: w, hw, row, by_, under, at_, h, hl => by
    have hs := hw s List.mem_cons_self
    have hw' := fun x hx => hw x (List.mem_cons_of_mem _ hx)
    have goal : ∀ {row2 : Row} {by2 : Int} {under2 : List (Row × Int)}, goT l os cs is (s :: w) row by_ under = goT l os cs is w row2 by2 under2 → Live os row2 by2 under2 → (∀ y, (∃ x, Rep os row by_ under x ∧ y ∈ moveL os cs is (rd_T46 l s).f1 s x) ↔ Rep os row2 by2 under2 y) →
        ∃ row', goT l os cs is (s :: w) row by_ under = some row' ∧ ∀ q, (∃ p, (p, q) ∈ row') ↔ ∃ x ∈ runL l os cs is at_ (s :: w), x.f0 = q := by
      intro row2 by2 under2 e1 e2 e3
      rw [e1]
      refine goT_rep w hw' (at_ := stepL l os cs is at_ s) (fun y => ?_) e2
      rw [mem_step hs, ← e3]
      constructor
      · rintro ⟨x, hx, hy⟩; exact ⟨x, (h x).1 hx, hy⟩
      · rintro ⟨x, hx, hy⟩; exact ⟨x, (h x).2 hx, hy⟩
    by_cases k1 : (rd_T46 l s).f1 = 1
    · refine goal (goT_open hs k1) ⟨fun p q hp => ?_, hl⟩ (fun y => ?_)
      · obtain ⟨p0, o, ho, h1, h2, rfl, rfl⟩ := mem_nOpen.1 hp
        obtain ⟨st, hst⟩ := hl.all _ _ h1
        exact ⟨o.f3 :: st, o, ho, h2, rfl, st, rfl, p0, h1, hst⟩
      · simp only [moveL, if_pos k1]
        constructor
        · rintro ⟨x, ⟨p, hp, hu⟩, hy⟩
          obtain ⟨o, ho, ⟨h1, h2⟩, rfl⟩ := mem_open.1 hy
          exact ⟨o.f2, mem_nOpen.2 ⟨p, o, ho, by rw [h1]; exact hp, h2, rfl, rfl⟩, o, ho, h2, rfl, x.f1, rfl, p, by rw [h1]; exact hp, hu⟩
        · rintro ⟨p, hp, o, ho, h1, h2, st', h3, p1, h4, h5⟩
          obtain ⟨p0, o', ho', h1', h2', h3', h4'⟩ := mem_nOpen.1 hp
          refine ⟨⟨o.f0, st'⟩, ⟨p1, h4, h5⟩, mem_open.2 ⟨o, ho, ⟨rfl, h1⟩, ?_⟩⟩
          cases y
          simp only [] at h3 h4'
          rw [h3, h4', ← h3', h2]
    by_cases k2 : (rd_T46 l s).f1 = 2
    · cases under with
      | nil =>
        refine goal (goT_close0 hs k2) trivial (fun y => ?_)
        simp only [moveL, if_neg k1, if_pos k2]
        constructor
        · rintro ⟨x, ⟨p, hp, hu⟩, hy⟩
          obtain ⟨c, hc, ⟨h1, h2, h3⟩, rfl⟩ := mem_close.1 hy
          have hu' : x.f1 = [] := hu
          rw [hu'] at h3
          exact ⟨p, mem_nClose.2 ⟨c, hc, by rw [h1]; exact hp, h2, h3, rfl⟩, by rw [hu']; rfl⟩
        · rintro ⟨p, hp, hu⟩
          have hu' : y.f1 = [] := hu
          obtain ⟨c, hc, h1, h2, h3, h4⟩ := mem_nClose.1 hp
          refine ⟨⟨c.f0, []⟩, ⟨p, h1, rfl⟩, mem_close.2 ⟨c, hc, ⟨rfl, h2, h3⟩, ?_⟩⟩
          cases y
          simp only [] at hu' h4
          rw [hu', h4]; rfl
      | cons u rest =>
        refine goal (goT_close hs k2) (Live.sub hl.2 (fun p q hp => ?_)) (fun y => ?_)
        · obtain ⟨o, ho, c, hc, h1, _⟩ := mem_nBack.1 hp
          exact ⟨_, h1⟩
        · simp only [moveL, if_neg k1, if_pos k2]
          constructor
          · rintro ⟨x, ⟨p, hp, o, ho, e1, e2, st', e3, p1, e4, e5⟩, hy⟩
            obtain ⟨c, hc, ⟨h1, h2, h3⟩, rfl⟩ := mem_close.1 hy
            rw [e3] at h3
            exact ⟨p1, mem_nBack.2 ⟨o, ho, c, hc, e4, e1, h2, h3, by rw [e2, h1]; exact hp, rfl⟩, by rw [e3]; exact e5⟩
          · rintro ⟨p, hp, hu⟩
            obtain ⟨o, ho, c, hc, h1, h2, h3, h4, h5, h6⟩ := mem_nBack.1 hp
            refine ⟨⟨c.f0, o.f3 :: y.f1⟩, ⟨o.f2, h5, o, ho, h2, rfl, y.f1, rfl, p, h1, hu⟩, mem_close.2 ⟨c, hc, ⟨rfl, h3, h4⟩, ?_⟩⟩
            cases y
            simp only [] at h6
            rw [h6]; rfl
    refine goal (goT_inner hs k1 k2) (Live.sub hl (fun p q hp => ?_)) (fun y => ?_)
    · obtain ⟨r, hr, h1, _⟩ := mem_nInner.1 hp
      exact ⟨_, h1⟩
    · simp only [moveL, if_neg k1, if_neg k2]
      constructor
      · rintro ⟨x, ⟨p, hp, hu⟩, hy⟩
        obtain ⟨r, hr, ⟨h1, h2⟩, rfl⟩ := mem_inner.1 hy
        exact ⟨p, mem_nInner.2 ⟨r, hr, by rw [h1]; exact hp, h2, rfl⟩, hu⟩
      · rintro ⟨p, hp, hu⟩
        obtain ⟨r, hr, h1, h2, h3⟩ := mem_nInner.1 hp
        refine ⟨⟨r.f0, y.f1⟩, ⟨p, h1, hu⟩, mem_inner.2 ⟨r, hr, ⟨rfl, h2⟩, ?_⟩⟩
        cases y
        simp only [] at h3
        rw [h3]
theorem takes_iff {l : List TSym} {os : List TOpen} {cs : List TClose} {is : List TInner} {init final w : List Int} (hw : ∀ s ∈ w, 0 ≤ s ∧ s < l.length) :
    takesB l init final os cs is w = true ↔ ∃ x ∈ runL l os cs is (startL init) w, x.f0 ∈ final := by
  obtain ⟨row, h1, h2⟩ := goT_rep (l := l) (os := os) (cs := cs) (is := is) w hw (row := init.map fun s => (s, s)) (by_ := 0) (under := []) (at_ := startL init) (fun x => by
    rw [mem_start]
    constructor
    · rintro ⟨e1, e2⟩; exact ⟨x.f0, List.mem_map.2 ⟨_, e1, rfl⟩, e2⟩
    · rintro ⟨p, hp, hu⟩
      obtain ⟨s, hs, e⟩ := List.mem_map.1 hp
      injection e with e1 e2
      exact ⟨by rw [← e2]; exact hs, hu⟩) trivial
  unfold takesB
  rw [h1]
  simp only [List.any_eq_true, List.contains_iff_mem]
  constructor
  · rintro ⟨⟨p, q⟩, hp, hq⟩
    obtain ⟨x, hx, rfl⟩ := (h2 q).1 ⟨p, hp⟩
    exact ⟨x, hx, hq⟩
  · rintro ⟨x, hx, hq⟩
    obtain ⟨p, hp⟩ := (h2 x.f0).2 ⟨x, hx, rfl⟩
    exact ⟨(p, x.f0), hp, hq⟩
end Go.Proofs.Ytjkhdldgmkkhjaa.P
