/- Orders on numbers, rows of numbers; what is sorted, each once, is one list alone. -/
import Derived.Test.YtjkhdldgmkkhjaaMSort
set_option linter.unusedVariables false
namespace Go.Proofs.Ytjkhdldgmkkhjaa.M
def cmpInt (a b : Int) : Int := if a < b then -1 else if a > b then 1 else 0
def cmpList : List Int → List Int → Int
  | [], [] => 0
  | [], _ :: _ => -1
  | _ :: _, [] => 1
  | x :: s, y :: t => if cmpInt x y = 0 then cmpList s t else cmpInt x y
def orInt (a b : Int) : Int := if a = 0 then b else a
theorem cmpInt_zero {a b : Int} : cmpInt a b = 0 ↔ a = b := by unfold cmpInt; split <;> (try split) <;> omega
theorem cmpInt_anti (a b : Int) : cmpInt b a = - cmpInt a b := by unfold cmpInt; repeat' split
                                                                  all_goals omega
theorem cmpInt_lt {a b : Int} : cmpInt a b < 0 ↔ a < b := by unfold cmpInt; split <;> (try split) <;> omega
theorem cmpList_zero : ∀ {s t : List Int}, cmpList s t = 0 ↔ s = t
  | [], [] => by simp [cmpList]
  | [], _ :: _ => by simp [cmpList]
  | _ :: _, [] => by simp [cmpList]
  | x :: s, y :: t => by
    unfold cmpList
    by_cases h : cmpInt x y = 0
    · rw [if_pos h, cmpList_zero, cmpInt_zero.1 h]; simp
    · rw [if_neg h]
      constructor
      · intro h2; exact absurd h2 h
      · intro h2; injection h2 with h3 h4; exact absurd (cmpInt_zero.2 h3) h
theorem cmpList_anti : ∀ (s t : List Int), cmpList t s = - cmpList s t
  | [], [] => by simp [cmpList]
  | [], _ :: _ => by simp [cmpList]
  | _ :: _, [] => by simp [cmpList]
  | x :: s, y :: t => by
    unfold cmpList
    rw [cmpInt_anti x y]
    by_cases h : cmpInt x y = 0
    · rw [if_pos (by omega), if_pos h, cmpList_anti s t]
    · rw [if_neg (by omega), if_neg h]
theorem cmpList_trans : ∀ {s t u : List Int}, cmpList s t < 0 → cmpList t u < 0 → cmpList s u < 0
  | [], [], _, h, _ => by simp [cmpList] at h
  | [], _ :: _, [], _, h => by simp [cmpList] at h
  | [], _ :: _, _ :: _, _, _ => by simp [cmpList]
  | _ :: _, [], _, h, _ => by simp [cmpList] at h
  | _ :: _, _ :: _, [], _, h => by simp [cmpList] at h
  | x :: s, y :: t, z :: u, h1, h2 => by
    unfold cmpList at h1 h2 ⊢
    by_cases hxy : cmpInt x y = 0
    · rw [if_pos hxy] at h1
      have := cmpInt_zero.1 hxy
      subst this
      by_cases hyz : cmpInt x z = 0
      · rw [if_pos hyz] at h2 ⊢; exact cmpList_trans h1 h2
      · rw [if_neg hyz] at h2 ⊢; exact h2
    · rw [if_neg hxy] at h1
      by_cases hyz : cmpInt y z = 0
      · have := cmpInt_zero.1 hyz
        subst this
        rw [if_neg hxy]; exact h1
      · rw [if_neg hyz] at h2
        have a := cmpInt_lt.1 h1
        have b := cmpInt_lt.1 h2
        have c : cmpInt x z < 0 := cmpInt_lt.2 (by omega)
        rw [if_neg (by omega)]; exact c
theorem orInt_zero {a b : Int} : orInt a b = 0 ↔ a = 0 ∧ b = 0 := by unfold orInt; split <;> simp_all

/-- a comparison that parts whatever two are unlike -/
structure TotalCmp {α : Type} (cmp : α → α → Int) : Prop where
  zero : ∀ {x y}, cmp x y = 0 ↔ x = y
  anti : ∀ x y, cmp y x = - cmp x y
  trans : ∀ {x y z}, cmp x y < 0 → cmp y z < 0 → cmp x z < 0
theorem totalInt : TotalCmp cmpInt := ⟨cmpInt_zero, fun x y => cmpInt_anti x y, fun h1 h2 => cmpInt_lt.2 (by have := cmpInt_lt.1 h1; have := cmpInt_lt.1 h2; omega)⟩
theorem totalList : TotalCmp cmpList := ⟨cmpList_zero, fun x y => cmpList_anti x y, cmpList_trans⟩
theorem TotalCmp.or {α β γ : Type} {c1 : α → α → Int} {c2 : β → β → Int} (h1 : TotalCmp c1) (h2 : TotalCmp c2) (f : γ → α) (g : γ → β) (inj : ∀ x y, f x = f y → g x = g y → x = y) :
    TotalCmp (fun x y => orInt (c1 (f x) (f y)) (c2 (g x) (g y))) where
  zero {x y} := by
    rw [orInt_zero, h1.zero, h2.zero]
    constructor
    · intro h; exact inj x y h.1 h.2
    · rintro rfl; exact ⟨rfl, rfl⟩
  anti x y := by
    simp only [orInt]
    rw [h1.anti (f x) (f y), h2.anti (g x) (g y)]
    by_cases h : c1 (f x) (f y) = 0
    · rw [if_pos (by omega), if_pos h]
    · rw [if_neg (by omega), if_neg h]
  trans {x y z} a b := by
    simp only [orInt] at a b ⊢
    by_cases h : c1 (f x) (f y) = 0
    · rw [if_pos h] at a
      have e := h1.zero.1 h
      by_cases k : c1 (f y) (f z) = 0
      · rw [if_pos k] at b
        have e2 := h1.zero.1 k
        rw [if_pos (h1.zero.2 (e.trans e2))]
        exact h2.trans a b
      · rw [if_neg k] at b
        rw [e, if_neg k]; exact b
    · rw [if_neg h] at a
      by_cases k : c1 (f y) (f z) = 0
      · have e2 := h1.zero.1 k
        rw [← e2, if_neg h]; exact a
      · rw [if_neg k] at b
        have := h1.trans a b
        rw [if_neg (by omega)]; exact this
theorem TotalCmp.of {α γ : Type} {c : α → α → Int} (h : TotalCmp c) (f : γ → α) (inj : ∀ x y, f x = f y → x = y) : TotalCmp (fun x y => c (f x) (f y)) :=
  ⟨fun {x y} => by rw [h.zero]; exact ⟨inj x y, fun e => by rw [e]⟩, fun x y => h.anti _ _, fun a b => h.trans a b⟩
section
variable {α : Type} {cmp : α → α → Int}
theorem TotalCmp.self (T : TotalCmp cmp) (x : α) : cmp x x = 0 := T.zero.2 rfl
/-- strictly rising -/
theorem TotalCmp.unique (T : TotalCmp cmp) : ∀ {l m : List α}, l.Pairwise (fun x y => cmp x y < 0) → m.Pairwise (fun x y => cmp x y < 0) → (∀ x, x ∈ l ↔ x ∈ m) → l = m
  | [], [], _, _, _ => rfl
  | [], y :: m, _, _, h => by have := (h y).2 List.mem_cons_self; simp at this
  | x :: l, [], _, _, h => by have := (h x).1 List.mem_cons_self; simp at this
  | x :: l, y :: m, hl, hm, h => by
    obtain ⟨h1, h2⟩ := List.pairwise_cons.1 hl
    obtain ⟨h3, h4⟩ := List.pairwise_cons.1 hm
    have e : x = y := by
      rcases List.mem_cons.1 ((h x).1 List.mem_cons_self) with e | e
      · exact e
      · rcases List.mem_cons.1 ((h y).2 List.mem_cons_self) with e2 | e2
        · exact e2.symm
        · have a := h1 y e2
          have b := h3 x e
          have := T.anti x y
          omega
    subst e
    have nx : ∀ {k : List α}, (∀ z ∈ k, cmp x z < 0) → x ∉ k := fun hk hx => by have := hk x hx; have := T.self x; omega
    have : l = m := TotalCmp.unique T h2 h4 (fun z => by
      have hz := h z
      simp only [List.mem_cons] at hz
      constructor
      · intro hzl
        rcases hz.1 (.inr hzl) with e | e
        · subst e; exact absurd hzl (nx h1)
        · exact e
      · intro hzm
        rcases hz.2 (.inr hzm) with e | e
        · subst e; exact absurd hzm (nx h3)
        · exact e)
    rw [this]
end
section
variable {α : Type} (cmp : α → α → Int)
def insC : List α → α → List α
  | [], x => [x]
  | y :: l, x => if cmp x y < 0 then x :: y :: l else if cmp x y = 0 then y :: l else y :: insC l x
/-- in order, each once -/
def onceC (l : List α) : List α := l.foldl (insC cmp) []
end
section
variable {α : Type} {cmp : α → α → Int}
theorem TotalCmp.mem_ins (T : TotalCmp cmp) : ∀ {l : List α} {x y : α}, y ∈ insC cmp l x ↔ y = x ∨ y ∈ l
  | [], x, y => by simp [insC]
  | z :: l, x, y => by
    unfold insC
    split
    · simp
    · split
      · rename_i h
        have := T.zero.1 h
        subst this
        simp
      · simp only [List.mem_cons, TotalCmp.mem_ins T (l := l)]
        constructor
        · rintro (h | h | h)
          · exact .inr (.inl h)
          · exact .inl h
          · exact .inr (.inr h)
        · rintro (h | h | h)
          · exact .inr (.inl h)
          · exact .inl h
          · exact .inr (.inr h)
theorem TotalCmp.ins_sorted (T : TotalCmp cmp) : ∀ {l : List α} {x : α}, l.Pairwise (fun x y => cmp x y < 0) → (insC cmp l x).Pairwise (fun x y => cmp x y < 0)
  | [], x, _ => by simp [insC]
  | z :: l, x, h => by
    obtain ⟨h1, h2⟩ := List.pairwise_cons.1 h
    unfold insC
    split
    · rename_i hx
      exact List.pairwise_cons.2 ⟨fun y hy => by
        rcases List.mem_cons.1 hy with rfl | hy
        · exact hx
        · exact T.trans hx (h1 y hy), h⟩
    · split
      · exact h
      · rename_i a b
        refine List.pairwise_cons.2 ⟨fun y hy => ?_, TotalCmp.ins_sorted T h2⟩
        rcases T.mem_ins.1 hy with rfl | hy
        · have := T.anti y z; omega
        · exact h1 y hy
theorem TotalCmp.once_sorted (T : TotalCmp cmp) (l : List α) : (onceC cmp l).Pairwise (fun x y => cmp x y < 0) := by
  have : ∀ (l acc : List α), acc.Pairwise (fun x y => cmp x y < 0) → (l.foldl (insC cmp) acc).Pairwise (fun x y => cmp x y < 0) := by
    intro l
    induction l with
    | nil => intro acc h; exact h
    | cons x l ih => intro acc h; exact ih _ (T.ins_sorted h)
  exact this l [] List.Pairwise.nil
theorem TotalCmp.mem_once (T : TotalCmp cmp) {l : List α} {y : α} : y ∈ onceC cmp l ↔ y ∈ l := by
  have : ∀ (l acc : List α), y ∈ l.foldl (insC cmp) acc ↔ y ∈ acc ∨ y ∈ l := by
    intro l
    induction l with
    | nil => intro acc; simp
    | cons x l ih =>
      intro acc
      simp only [List.foldl_cons, ih, T.mem_ins, List.mem_cons]
      constructor
      · rintro ((h | h) | h)
        · exact .inr (.inl h)
        · exact .inl h
        · exact .inr (.inr h)
      · rintro (h | h | h)
        · exact .inl (.inr h)
        · exact .inl (.inl h)
        · exact .inr h
  have := this l []
  simpa [onceC] using this
theorem TotalCmp.swo (T : TotalCmp cmp) : Go.Sort.SWO (fun x y => decide (cmp x y < 0)) where
  irrefl x := by simp [T.self x]
  trans x y z h1 h2 := by simp at *; exact T.trans h1 h2
  ntrans x y z h1 h2 := by
    simp at *
    have a := T.anti x y
    have b := T.anti y z
    have c := T.anti x z
    by_cases e1 : cmp x y = 0
    · rw [T.zero.1 e1]; exact h2
    · by_cases e2 : cmp y z = 0
      · rw [← T.zero.1 e2]; exact h1
      · have := T.trans (x := z) (y := y) (z := x) (by omega) (by omega)
        omega
end
/-- neighbours that are the same: the first is left -/
def dedupA {α : Type} (eq : α → α → Bool) : List α → List α
  | [] => []
  | x :: l => match l with
    | [] => [x]
    | y :: m => if eq x y then x :: (dedupA eq (y :: m)).tail else x :: dedupA eq (y :: m)
end Go.Proofs.Ytjkhdldgmkkhjaa.M
