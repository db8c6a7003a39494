/- What runs.Takes computes: the rows of pairs of states, by the word. -/
import Derived.Test.YtjkhdldgmkkhjaaP0
import Derived.Test.YtjkhdldgmkkhjaaMAll
import Derived.Test.YtjkhdldgmkkhjaaPSlicesContainsIntInt
set_option linter.unusedVariables false
set_option linter.unusedSimpArgs false
set_option linter.unnecessarySimpa false
namespace Go.Proofs.Ytjkhdldgmkkhjaa.P
open Go.RowKit Go.Proofs.YtjkhdldgmkkhjaaW.PrintWords Go.Proofs.YtjkhdldgmkkhjaaW.PrintLast Go.Proofs.YtjkhdldgmkkhjaaW.PrintMore Go.Proofs.Ytjkhdldgmkkhjaa.M

abbrev Row := List (Int × Int)
abbrev TOpen := S52
abbrev TClose := S54
abbrev TInner := S56
abbrev TSym := S46
def nOpen (os : List TOpen) (k : Int) (row : Row) : Row := row.flatMap fun p => os.filterMap fun r => if r.f0 = p.2 ∧ r.f1 = k then some (r.f2, r.f2) else none
def nClose (cs : List TClose) (k : Int) (row : Row) : Row := row.flatMap fun p => cs.filterMap fun r => if r.f0 = p.2 ∧ r.f1 = k ∧ r.f2 = 0 then some (p.1, r.f3) else none
def nInner (is : List TInner) (k : Int) (row : Row) : Row := row.flatMap fun p => is.filterMap fun r => if r.f0 = p.2 ∧ r.f1 = k then some (p.1, r.f2) else none
def nBack (os : List TOpen) (cs : List TClose) (k by_ : Int) (under row : Row) : Row :=
  under.flatMap fun p => (os.filter fun o => decide (o.f0 = p.2 ∧ o.f1 = by_)).flatMap fun o => cs.filterMap fun c => if c.f1 = k ∧ c.f2 = o.f3 ∧ (o.f2, c.f0) ∈ row then some (p.1, c.f3) else none
/-- the last row, behind a word; none: a number that is no symbol's -/
def goT (l : List TSym) (os : List TOpen) (cs : List TClose) (is : List TInner) : List Int → Row → Int → List (Row × Int) → Option Row
  | [], row, _, _ => some row
  | k :: w, row, by_, under =>
    if 0 ≤ k ∧ k < l.length then
      if (rd_T46 l k).f1 = 1 then goT l os cs is w (nOpen os k row) k ((row, by_) :: under)
      else if (rd_T46 l k).f1 = 2 then
        match under with
        | [] => goT l os cs is w (nClose cs k row) by_ []
        | u :: under => goT l os cs is w (nBack os cs k by_ u.1 row) u.2 under
      else goT l os cs is w (nInner is k row) by_ under
    else none
theorem goT_open {l : List TSym} {os : List TOpen} {cs : List TClose} {is : List TInner} {k : Int} {w : List Int} {row : Row} {by_ : Int} {under : List (Row × Int)} (h : 0 ≤ k ∧ k < l.length) (hk : (rd_T46 l k).f1 = 1) :
    goT l os cs is (k :: w) row by_ under = goT l os cs is w (nOpen os k row) k ((row, by_) :: under) := by rw [goT.eq_def]; simp only []; rw [if_pos h, if_pos hk]
theorem goT_close0 {l : List TSym} {os : List TOpen} {cs : List TClose} {is : List TInner} {k : Int} {w : List Int} {row : Row} {by_ : Int} (h : 0 ≤ k ∧ k < l.length) (hk : (rd_T46 l k).f1 = 2) :
    goT l os cs is (k :: w) row by_ [] = goT l os cs is w (nClose cs k row) by_ [] := by rw [goT.eq_def]; simp only []; rw [if_pos h, if_neg (by omega), if_pos hk]
theorem goT_close {l : List TSym} {os : List TOpen} {cs : List TClose} {is : List TInner} {k : Int} {w : List Int} {row : Row} {by_ : Int} {u : Row × Int} {under : List (Row × Int)} (h : 0 ≤ k ∧ k < l.length) (hk : (rd_T46 l k).f1 = 2) :
    goT l os cs is (k :: w) row by_ (u :: under) = goT l os cs is w (nBack os cs k by_ u.1 row) u.2 under := by rw [goT.eq_def]; simp only []; rw [if_pos h, if_neg (by omega), if_pos hk]
theorem goT_inner {l : List TSym} {os : List TOpen} {cs : List TClose} {is : List TInner} {k : Int} {w : List Int} {row : Row} {by_ : Int} {under : List (Row × Int)} (h : 0 ≤ k ∧ k < l.length) (hk : (rd_T46 l k).f1 ≠ 1) (hk2 : (rd_T46 l k).f1 ≠ 2) :
    goT l os cs is (k :: w) row by_ under = goT l os cs is w (nInner is k row) by_ under := by rw [goT.eq_def]; simp only []; rw [if_pos h, if_neg hk, if_neg hk2]
def takesB (l : List TSym) (init final : List Int) (os : List TOpen) (cs : List TClose) (is : List TInner) (w : List Int) : Bool :=
  match goT l os cs is w (init.map fun s => (s, s)) 0 [] with
  | none => false
  | some row => row.any fun p => final.contains p.2
def runs_Takes.f (l0 : List TSym) (a1_0 a1_1 : Int) (l1_2 l1_3 : List Int) (l1_4 : List TOpen) (l1_5 : List TClose) (l1_6 : List TInner) (l2 : List Int) : Option Bool :=
  if l0.length ≤ 1000000 ∧ l1_2.length ≤ 1000000 ∧ l1_3.length ≤ 1000000 ∧ l1_4.length ≤ 1000000 ∧ l1_5.length ≤ 1000000 ∧ l1_6.length ≤ 1000000 ∧ l2.length ≤ 1000000 then some (takesB l0 l1_2 l1_3 l1_4 l1_5 l1_6 l2) else none

theorem R_beside {α : Type} {d : Kd α} {e base b : Nat} {w w' : World} {ok : Nat → Prop} {v : Value} {xs : List α} (h : d.R e w base ok v xs) (hb : ∃ es c, w.heap[b]? = some (.map es c)) (g : w.grownBy w' (some b)) : d.R e w' base ok v xs :=
  Kd.R_mono (Kd.R_move (Kd.R_bound h) (fun k hk => g.block k hk.2.2.1 (nes (by
    rintro rfl
    obtain ⟨es, c, h1⟩ := hb
    obtain ⟨_, _, _, q, _, cells, h2⟩ := hk
    rw [h1] at h2
    cases h2)))) (fun _ hk => hk.1)
theorem infoLev : (Try.prog.info? 76).map (fun i => (i.zero, i.size, i.bytes)) = some (some (.agg #[.map none, .int .i64 0]), 2, 16) := by kernel_rfl

theorem R_notmap {α : Type} {d : Kd α} {e base b : Nat} {w : World} {ok : Nat → Prop} {v : Value} {xs : List α} (h : d.R e w base ok v xs) (hb : ∃ es c, w.heap[b]? = some (.map es c)) : some b ≠ v.ownBlock := by
  intro he
  obtain ⟨inner, ho⟩ := Kd.R_own h
  obtain ⟨cells, h2⟩ := own_typed ho b he.symm
  obtain ⟨es, c, h1⟩ := hb
  rw [h1] at h2
  cases h2
theorem nOpen_snoc (os : List TOpen) (k : Int) (row : Row) (p : Int × Int) : nOpen os k (row ++ [p]) = nOpen os k row ++ nOpen os k [p] := by simp [nOpen]
theorem nOpen_next (os : List TOpen) (k : Int) (p : Int × Int) (j : Int) (h0 : 0 ≤ j) (h : j < os.length) : nOpen (os.take (j + 1).toNat) k [p] = nOpen (os.take j.toNat) k [p] ++ if (rd_T52 os j).f0 = p.2 ∧ (rd_T52 os j).f1 = k then [((rd_T52 os j).f2, (rd_T52 os j).f2)] else [] := by
  rw [take_next z52 os j h0 h]
  simp only [nOpen, List.flatMap_cons, List.flatMap_nil, List.append_nil, List.filterMap_append]
  congr 1
  show List.filterMap _ [rd_T52 os j] = _
  by_cases hc : (rd_T52 os j).f0 = p.2 ∧ (rd_T52 os j).f1 = k <;> simp [hc]

theorem nClose_snoc (os : List TClose) (k : Int) (row : Row) (p : Int × Int) : nClose os k (row ++ [p]) = nClose os k row ++ nClose os k [p] := by simp [nClose]
theorem nClose_next (os : List TClose) (k : Int) (p : Int × Int) (j : Int) (h0 : 0 ≤ j) (h : j < os.length) : nClose (os.take (j + 1).toNat) k [p] = nClose (os.take j.toNat) k [p] ++ if (rd_T54 os j).f0 = p.2 ∧ (rd_T54 os j).f1 = k ∧ (rd_T54 os j).f2 = 0 then [(p.1, (rd_T54 os j).f3)] else [] := by
  rw [take_next z54 os j h0 h]
  simp only [nClose, List.flatMap_cons, List.flatMap_nil, List.append_nil, List.filterMap_append]
  congr 1
  show List.filterMap _ [rd_T54 os j] = _
  by_cases hc : (rd_T54 os j).f0 = p.2 ∧ (rd_T54 os j).f1 = k ∧ (rd_T54 os j).f2 = 0 <;> simp [hc]
theorem nInner_snoc (os : List TInner) (k : Int) (row : Row) (p : Int × Int) : nInner os k (row ++ [p]) = nInner os k row ++ nInner os k [p] := by simp [nInner]
theorem nInner_next (os : List TInner) (k : Int) (p : Int × Int) (j : Int) (h0 : 0 ≤ j) (h : j < os.length) : nInner (os.take (j + 1).toNat) k [p] = nInner (os.take j.toNat) k [p] ++ if (rd_T56 os j).f0 = p.2 ∧ (rd_T56 os j).f1 = k then [(p.1, (rd_T56 os j).f2)] else [] := by
  rw [take_next z56 os j h0 h]
  simp only [nInner, List.flatMap_cons, List.flatMap_nil, List.append_nil, List.filterMap_append]
  congr 1
  show List.filterMap _ [rd_T56 os j] = _
  by_cases hc : (rd_T56 os j).f0 = p.2 ∧ (rd_T56 os j).f1 = k <;> simp [hc]

/-- A block of a level's map: the pairs of a row. -/
def RowIs (w : World) (b : Nat) (row : Row) : Prop := ∃ m, MapIs ePair eOne w b m ∧ ∀ p, p ∈ m.map (·.1) ↔ p ∈ row
def kLev : Kd (Nat × Int) := Kd.pair (Kd.scalar (fun b : Nat => Value.map (some b)) (fun _ => rfl)) (Kd.int .i64)
def Levs (w : World) : List (Nat × Int) → List (Row × Int) → Prop
  | [], [] => True
  | u :: us, v :: vs => RowIs w u.1 v.1 ∧ u.2 = v.2 ∧ Levs w us vs
  | _, _ => False

theorem RowIs.move {w w' : World} {b : Nat} {row : Row} (h : RowIs w b row) (e : w'.heap[b]? = w.heap[b]?) : RowIs w' b row := by
  obtain ⟨m, h1, h2⟩ := h
  exact ⟨m, h1.move e, h2⟩
theorem RowIs.lt {w : World} {b : Nat} {row : Row} (h : RowIs w b row) : b < w.heap.size := by
  obtain ⟨m, h1, h2⟩ := h
  exact h1.lt
theorem RowIs.isMap {w : World} {b : Nat} {row : Row} (h : RowIs w b row) : ∃ es c, w.heap[b]? = some (.map es c) := by
  obtain ⟨m, h1, h2⟩ := h
  exact h1.isMap
theorem Levs.imp {w w' : World} (h : ∀ b row, RowIs w b row → RowIs w' b row) : ∀ (us : List (Nat × Int)) (vs : List (Row × Int)), Levs w us vs → Levs w' us vs
  | [], [], _ => trivial
  | u :: us, v :: vs, ⟨h1, h2, h3⟩ => ⟨h _ _ h1, h2, Levs.imp h us vs h3⟩
  | [], _ :: _, h => h.elim
  | _ :: _, [], h => h.elim
theorem map_ne_cells {w : World} {b g : Nat} {cs : Array Value} {t : Nat} (hb : ∃ es c, w.heap[b]? = some (.map es c)) (h : w.heap[g]? = some (.cells cs t (0, 0))) : b ≠ g := by
  rintro rfl
  obtain ⟨es, c, h1⟩ := hb
  rw [h1] at h
  cases h

def prodL (A B : List Int) : Row := A.flatMap fun a => B.map fun b => (a, b)
theorem prodL_length (A B : List Int) : (prodL A B).length = A.length * B.length := by
  induction A with
  | nil => simp [prodL]
  | cons a A ih =>
    have : prodL (a :: A) B = B.map (fun b => (a, b)) ++ prodL A B := by simp [prodL]
    rw [this, List.length_append, ih, List.length_map, List.length_cons, Nat.succ_mul, Nat.add_comm]
theorem mem_prodL {A B : List Int} {p : Int × Int} : p ∈ prodL A B ↔ p.1 ∈ A ∧ p.2 ∈ B := by
  obtain ⟨a, b⟩ := p
  simp [prodL]
def tA (init : List Int) (os : List TOpen) : List Int := init ++ os.map (·.f2)
def tB (init : List Int) (os : List TOpen) (cs : List TClose) (is : List TInner) : List Int := init ++ (os.map (·.f2) ++ (cs.map (·.f3) ++ is.map (·.f2)))
def WithinL (A B : List Int) (row : Row) : Prop := ∀ p ∈ row, p.1 ∈ A ∧ p.2 ∈ B
section
variable {init : List Int} {os : List TOpen} {cs : List TClose} {is : List TInner} {k by_ : Int} {row under : Row}
theorem within_init : WithinL (tA init os) (tB init os cs is) (init.map fun s => (s, s)) := by
  intro p hp
  obtain ⟨s, hs, rfl⟩ := List.mem_map.1 hp
  exact ⟨List.mem_append_left _ hs, List.mem_append_left _ hs⟩
theorem within_open : WithinL (tA init os) (tB init os cs is) (nOpen os k row) := by
  intro p hp
  simp only [nOpen, List.mem_flatMap, List.mem_filterMap] at hp
  obtain ⟨q, _, r, hr, h⟩ := hp
  split at h
  · injection h with h
    subst h
    have : r.f2 ∈ os.map (·.f2) := List.mem_map_of_mem hr
    exact ⟨List.mem_append_right _ this, List.mem_append_right _ (List.mem_append_left _ this)⟩
  · cases h
theorem within_close (h : WithinL (tA init os) (tB init os cs is) row) : WithinL (tA init os) (tB init os cs is) (nClose cs k row) := by
  intro p hp
  simp only [nClose, List.mem_flatMap, List.mem_filterMap] at hp
  obtain ⟨q, hq, r, hr, h2⟩ := hp
  split at h2
  · injection h2 with h2
    subst h2
    have : r.f3 ∈ cs.map (·.f3) := List.mem_map_of_mem hr
    exact ⟨(h q hq).1, List.mem_append_right _ (List.mem_append_right _ (List.mem_append_left _ this))⟩
  · cases h2
theorem within_inner (h : WithinL (tA init os) (tB init os cs is) row) : WithinL (tA init os) (tB init os cs is) (nInner is k row) := by
  intro p hp
  simp only [nInner, List.mem_flatMap, List.mem_filterMap] at hp
  obtain ⟨q, hq, r, hr, h2⟩ := hp
  split at h2
  · injection h2 with h2
    subst h2
    have : r.f2 ∈ is.map (·.f2) := List.mem_map_of_mem hr
    exact ⟨(h q hq).1, List.mem_append_right _ (List.mem_append_right _ (List.mem_append_right _ this))⟩
  · cases h2
theorem within_back (h : WithinL (tA init os) (tB init os cs is) under) : WithinL (tA init os) (tB init os cs is) (nBack os cs k by_ under row) := by
  intro p hp
  simp only [nBack, List.mem_flatMap, List.mem_filterMap] at hp
  obtain ⟨q, hq, o, _, r, hr, h2⟩ := hp
  split at h2
  · injection h2 with h2
    subst h2
    have : r.f3 ∈ cs.map (·.f3) := List.mem_map_of_mem hr
    exact ⟨(h q hq).1, List.mem_append_right _ (List.mem_append_right _ (List.mem_append_left _ this))⟩
  · cases h2
theorem within_bound (h : WithinL (tA init os) (tB init os cs is) row) (h1 : init.length ≤ 1000000) (h2 : os.length ≤ 1000000) (h3 : cs.length ≤ 1000000) (h4 : is.length ≤ 1000000) : ∃ M : Row, (∀ p ∈ row, p ∈ M) ∧ M.length ≤ 10000000000000 := by
  refine ⟨prodL (tA init os) (tB init os cs is), fun p hp => mem_prodL.2 (h p hp), ?_⟩
  rw [prodL_length]
  have a1 : (tA init os).length ≤ 2000000 := by simp [tA]; omega
  have a2 : (tB init os cs is).length ≤ 4000000 := by simp [tB]; omega
  exact Nat.le_trans (Nat.mul_le_mul a1 a2) (by omega)
end
theorem at_lev {w : World} {A : Option Addr} {n : Nat} {xs : List (Nat × Int)} (h : Kd.C kLev w A n xs) (i : Int) (h0 : 0 ≤ i) (h1 : i < n) :
    ∃ ad, A = some ad ∧ w.cell? (ad.add (i.toNat * 2)) = some (.map (some (xs.getD i.toNat (0, 0)).1)) ∧ w.cell? ⟨(ad.add (i.toNat * 2)).block, (ad.add (i.toNat * 2)).off + 1, none⟩ = some (.int .i64 (xs.getD i.toNat (0, 0)).2) := by
  obtain ⟨ad, c, e, _, hK, hc0⟩ := Kd.C_get h (0, 0) i h0 h1
  have hc : ∀ j u, c[j]? = some u → w.cell? (ad.add (i.toNat * 2 + j)) = some u := hc0
  obtain ⟨_, _, rfl, rfl, rfl⟩ := hK
  exact ⟨ad, e, hc 0 _ rfl, by rw [← add_field _ _ 1 (by omega)]; exact hc 1 _ rfl⟩
end Go.Proofs.Ytjkhdldgmkkhjaa.P
