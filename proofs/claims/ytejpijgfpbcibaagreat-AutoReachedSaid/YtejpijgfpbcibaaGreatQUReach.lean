/- Words and walks of this claim: UReach. -/
import Derived.Test.YtejpijgfpbcibaaGreatQSTrim
import Derived.Test.YtejpijgfpbcibaaGreatQMAuto
set_option linter.unusedVariables false
set_option linter.unusedSimpArgs false
set_option linter.unnecessarySimpa false
namespace Go.Proofs.YtejpijgfpbcibaaGreat.P
open Go.RowKit Go.Proofs.YtejpijgfpbcibaaGreatW.PrintWords Go.Proofs.YtejpijgfpbcibaaGreatW.PrintLast Go.Proofs.YtejpijgfpbcibaaGreatW.PrintMore Go.Proofs.YtejpijgfpbcibaaGreat.M
def tt (l : List Bool) (q : Nat) : Prop := l.getD q false = true
theorem tt_lt {l : List Bool} {q : Nat} (h : tt l q) : q < l.length := by
 unfold tt at h
 rw [List.getD_eq_getElem?_getD] at h
 by_cases hq : q < l.length
 ·exact hq
 ·rw [List.getElem?_eq_none (by omega)] at h
  cases h
theorem has_iff {l : List Bool} {k : Int} : hasB l k = true ↔ 0 ≤ k ∧ tt l k.toNat := by
 unfold hasB
 simp only [Bool.and_eq_true, decide_eq_true_eq]
 refine ⟨fun h => ⟨h.1, h.2.2⟩, fun h => ⟨h.1, ?_, h.2⟩⟩
 have := tt_lt h.2
 omega
theorem tt_set {l : List Bool} {j q : Nat} : tt (l.set j true) q ↔ tt l q ∨ (q = j ∧ j < l.length) := by
 unfold tt
 rw [List.getD_eq_getElem?_getD, List.getD_eq_getElem?_getD, List.getElem?_set]
 by_cases h : j = q
 ·subst h
  by_cases h2 : j < l.length
  ·simp [h2]
  ·simp [h2]
 ·rw [if_neg h]
  exact ⟨.inl, fun h2 => h2.elim id (fun h3 => absurd h3.1.symm h)⟩
theorem tt_lay {l : List Bool} {k : Int} {q : Nat} (h : tt (layL l k) q) : tt l q ∨ (q = k.toNat ∧ 0 ≤ k) := by
 unfold layL at h
 split at h
 ·rename_i hb
  unfold layB at hb
  simp only [Bool.and_eq_true, decide_eq_true_eq] at hb
  rcases tt_set.1 h with h | h
  ·exact .inl h
  ·exact .inr ⟨h.1, hb.1⟩
 ·exact .inl h
theorem lay_mono {l : List Bool} {k : Int} {q : Nat} (h : tt l q) : tt (layL l k) q := by
 unfold layL
 split
 ·exact tt_set.2 (.inl h)
 ·exact h
theorem lay_no {l : List Bool} {k : Int} (h : layB l k = false) (h0 : 0 ≤ k) (h1 : k < l.length) : tt l k.toNat := by
 unfold layB at h
 rw [decide_eq_true h0, decide_eq_true h1] at h
 have h2 : rdOf false l k = true := by simpa using h
 exact h2
structure Le (s s' : TS) : Prop where
 st : ∀ q, tt s.st q → tt s'.st q
 mr : ∀ q, tt s.mr q → tt s'.mr q
theorem Le.refl (s : TS) : Le s s := ⟨fun _ h => h, fun _ h => h⟩
theorem Le.trans {a b c : TS} (h : Le a b) (k : Le b c) : Le a c := ⟨fun q hq => k.st q (h.st q hq), fun q hq => k.mr q (h.mr q hq)⟩
theorem Le.has {s s' : TS} (h : Le s s') {k : Int} (hk : hasB s.st k = true) : hasB s'.st k = true := has_iff.2 ⟨(has_iff.1 hk).1, h.st _ (has_iff.1 hk).2⟩
theorem Le.hasM {s s' : TS} (h : Le s s') {k : Int} (hk : hasB s.mr k = true) : hasB s'.mr k = true := has_iff.2 ⟨(has_iff.1 hk).1, h.mr _ (has_iff.1 hk).2⟩
section
variable {i : List Int} {o : List TOpen} {c : List TClose} {p : List TInner} {s s' : TS}
def Why (i : List Int) (o : List TOpen) (c : List TClose) (p : List TInner) (s : TS) (q : Nat) : Prop :=
 (∃ x ∈ i, x.toNat = q) ∨ (∃ r ∈ o, hasB s.st r.f0 = true ∧ r.f2.toNat = q) ∨ (∃ r ∈ c, hasB s.st r.f0 = true ∧ (r.f2 = 0 ∨ hasB s.mr r.f2 = true) ∧ r.f3.toNat = q) ∨ (∃ r ∈ p, hasB s.st r.f0 = true ∧ r.f2.toNat = q)
def WhyM (o : List TOpen) (s : TS) (q : Nat) : Prop := ∃ r ∈ o, hasB s.st r.f0 = true ∧ r.f3.toNat = q
theorem Why.mono {q : Nat} (h : Why i o c p s q) (hl : Le s s') : Why i o c p s' q := by
 rcases h with h | ⟨r, h1, h2, h3⟩ | ⟨r, h1, h2, h3, h4⟩ | ⟨r, h1, h2, h3⟩
 ·exact .inl h
 ·exact .inr (.inl ⟨r, h1, hl.has h2, h3⟩)
 ·exact .inr (.inr (.inl ⟨r, h1, hl.has h2, h3.imp id hl.hasM, h4⟩))
 ·exact .inr (.inr (.inr ⟨r, h1, hl.has h2, h3⟩))
structure Rch (i : List Int) (o : List TOpen) (c : List TClose) (p : List TInner) (s : TS) : Prop where
 st : ∀ q, tt s.st q → Why i o c p s q
 mr : ∀ q, tt s.mr q → WhyM o s q
theorem Rch.lift (h : Rch i o c p s) (hl : Le s s') (h1 : ∀ q, tt s'.st q → tt s.st q ∨ Why i o c p s' q) (h2 : ∀ q, tt s'.mr q → tt s.mr q ∨ WhyM o s' q) : Rch i o c p s' :=
 ⟨fun q hq => (h1 q hq).elim (fun h3 => (h.st q h3).mono hl) id, fun q hq => (h2 q hq).elim (fun h3 => by obtain ⟨r, a, b, d⟩ := h.mr q h3; exact ⟨r, a, hl.has b, d⟩) id⟩
theorem Rch.sO (h : Rch i o c p s) {r : TOpen} (hr : r ∈ o) : Rch i o c p (stepO s r) ∧ Le s (stepO s r) := by
 unfold P.stepO
 split
 ·rename_i hb
  have hl : Le s ⟨layL s.st r.f2, layL s.mr r.f3, layB s.mr r.f3 || (layB s.st r.f2 || s.gr)⟩ := ⟨fun q => lay_mono, fun q => lay_mono⟩
  refine ⟨h.lift hl (fun q hq => (tt_lay hq).imp id fun h3 => ?_) (fun q hq => (tt_lay hq).imp id fun h3 => ?_), hl⟩
  ·exact .inr (.inl ⟨r, hr, hl.has hb, h3.1.symm⟩)
  ·exact ⟨r, hr, hl.has hb, h3.1.symm⟩
 ·exact ⟨h, Le.refl s⟩
theorem Rch.sC (h : Rch i o c p s) {r : TClose} (hr : r ∈ c) : Rch i o c p (stepC s r) ∧ Le s (stepC s r) := by
 unfold P.stepC
 split
 ·rename_i hb
  simp only [Bool.and_eq_true, Bool.or_eq_true, decide_eq_true_eq] at hb
  have hl : Le s ⟨layL s.st r.f3, s.mr, layB s.st r.f3 || s.gr⟩ := ⟨fun q => lay_mono, fun q h => h⟩
  refine ⟨h.lift hl (fun q hq => (tt_lay hq).imp id fun h3 => ?_) (fun q hq => .inl hq), hl⟩
  exact .inr (.inr (.inl ⟨r, hr, hl.has hb.1, hb.2.imp id hl.hasM, h3.1.symm⟩))
 ·exact ⟨h, Le.refl s⟩
theorem Rch.sI (h : Rch i o c p s) {r : TInner} (hr : r ∈ p) : Rch i o c p (stepI s r) ∧ Le s (stepI s r) := by
 unfold P.stepI
 split
 ·rename_i hb
  have hl : Le s ⟨layL s.st r.f2, s.mr, layB s.st r.f2 || s.gr⟩ := ⟨fun q => lay_mono, fun q h => h⟩
  refine ⟨h.lift hl (fun q hq => (tt_lay hq).imp id fun h3 => ?_) (fun q hq => .inl hq), hl⟩
  exact .inr (.inr (.inr ⟨r, hr, hl.has hb, h3.1.symm⟩))
 ·exact ⟨h, Le.refl s⟩
theorem fold_rch {α : Type} {f : TS → α → TS} {R : TS → Prop} : ∀ {m : List α} (hf : ∀ s, R s → ∀ r ∈ m, R (f s r) ∧ Le s (f s r)) {s : TS}, R s → R (m.foldl f s) ∧ Le s (m.foldl f s)
 | [], _, s, h => ⟨h, Le.refl s⟩
 | r :: m, hf, s, h => by
  have h1 := hf s h r (List.mem_cons_self ..)
  have h2 := fold_rch (m := m) (fun s hs r hr => hf s hs r (List.mem_cons_of_mem _ hr)) h1.1
  exact ⟨h2.1, h1.2.trans h2.2⟩
theorem Rch.rnd (h : Rch i o c p s) : Rch i o c p (roundL s o c p) ∧ Le s (roundL s o c p) := by
 have h1 := fold_rch (f := stepO) (R := Rch i o c p) (m := o) (fun s hs r hr => Rch.sO hs hr) h
 have h2 := fold_rch (f := stepC) (R := Rch i o c p) (m := c) (fun s hs r hr => Rch.sC hs hr) h1.1
 have h3 := fold_rch (f := stepI) (R := Rch i o c p) (m := p) (fun s hs r hr => Rch.sI hs hr) h2.1
 exact ⟨h3.1, (h1.2.trans h2.2).trans h3.2⟩
theorem Rch.agn (h : Rch i o c p s) : Rch i o c p (again s o c p) ∧ Le s (again s o c p) :=
 have h1 := Rch.rnd (s := ⟨s.st, s.mr, false⟩) ⟨h.st, h.mr⟩
 ⟨h1.1, ⟨fun q => h1.2.st q, fun q => h1.2.mr q⟩⟩
theorem Rch.tk : ∀ (k : Nat) {s : TS}, Rch i o c p s → Rch i o c p (trimK o c p k s) ∧ Le s (trimK o c p k s)
 | 0, s, h => ⟨h, Le.refl s⟩
 | k + 1, s, h => by
  show Rch i o c p (if s.gr = true then _ else s) ∧ Le s (if s.gr = true then _ else s)
  split
  ·have h1 := h.agn
   have h2 := Rch.tk k h1.1
   exact ⟨h2.1, h1.2.trans h2.2⟩
  ·exact ⟨h, Le.refl s⟩
structure Shut_ (o : List TOpen) (c : List TClose) (p : List TInner) (s : TS) : Prop where
 ho : ∀ r ∈ o, hasB s.st r.f0 = true → layB s.st r.f2 = false ∧ layB s.mr r.f3 = false
 hc : ∀ r ∈ c, hasB s.st r.f0 = true → (r.f2 = 0 ∨ hasB s.mr r.f2 = true) → layB s.st r.f3 = false
 hp : ∀ r ∈ p, hasB s.st r.f0 = true → layB s.st r.f2 = false
theorem fold_still {α : Type} {f : TS → α → TS} (hg : ∀ s r, (f s r).gr = false → s.gr = false ∧ f s r = s) : ∀ (m : List α) (s : TS), (m.foldl f s).gr = false → m.foldl f s = s ∧ ∀ r ∈ m, f s r = s
 | [], s, h => ⟨rfl, fun r hr => by cases hr⟩
 | r :: m, s, h => by
  have h1 := fold_still hg m (f s r) h
  have h2 : f s r = s := (hg s r (by have h3 : (m.foldl f (f s r)).gr = false := h; rw [h1.1] at h3; exact h3)).2
  refine ⟨h1.1.trans h2, fun r' hr' => ?_⟩
  rcases List.mem_cons.1 hr' with rfl | hr'
  ·exact h2
  ·have h4 := h1.2 r' hr'
   rw [h2] at h4
   exact h4
theorem layL_no {l : List Bool} {k : Int} (h : layB l k = false) : layL l k = l := by unfold layL; rw [if_neg (by rw [h]; decide)]
theorem stillO (s : TS) (r : TOpen) (h : (stepO s r).gr = false) : s.gr = false ∧ stepO s r = s := by
 unfold P.stepO at h ⊢
 split at h
 ·rename_i hb
  simp only [Bool.or_eq_false_iff] at h
  rw [if_pos hb, layL_no h.1, layL_no h.2.1, h.1, h.2.1, Bool.false_or, Bool.false_or]
  exact ⟨h.2.2, rfl⟩
 ·rename_i hb
  rw [if_neg hb]
  exact ⟨h, rfl⟩
theorem stillC (s : TS) (r : TClose) (h : (stepC s r).gr = false) : s.gr = false ∧ stepC s r = s := by
 unfold P.stepC at h ⊢
 split at h
 ·rename_i hb
  simp only [Bool.or_eq_false_iff] at h
  rw [if_pos hb, layL_no h.1, h.1, Bool.false_or]
  exact ⟨h.2, rfl⟩
 ·rename_i hb
  rw [if_neg hb]
  exact ⟨h, rfl⟩
theorem stillI (s : TS) (r : TInner) (h : (stepI s r).gr = false) : s.gr = false ∧ stepI s r = s := by
 unfold P.stepI at h ⊢
 split at h
 ·rename_i hb
  simp only [Bool.or_eq_false_iff] at h
  rw [if_pos hb, layL_no h.1, h.1, Bool.false_or]
  exact ⟨h.2, rfl⟩
 ·rename_i hb
  rw [if_neg hb]
  exact ⟨h, rfl⟩
theorem round_shut (h : (roundL s o c p).gr = false) : roundL s o c p = s ∧ Shut_ o c p s := by
 have h3 := fold_still stillI p _ h
 have e3 : (c.foldl stepC (o.foldl stepO s)).gr = false := by rw [← h3.1]; exact h
 have h2 := fold_still stillC c _ e3
 have e2 : (o.foldl stepO s).gr = false := by rw [← h2.1]; exact e3
 have h1 := fold_still stillO o _ e2
 have e1 : s.gr = false := by rw [← h1.1]; exact e2
 rw [h1.1] at h2
 rw [h1.1, h2.1] at h3
 refine ⟨by unfold roundL; rw [h1.1, h2.1]; exact h3.1, fun r hr hb => ?_, fun r hr hb hm => ?_, fun r hr hb => ?_⟩
 ·have h4 : (stepO s r).gr = false := by rw [h1.2 r hr]; exact e1
  unfold P.stepO at h4
  rw [if_pos hb] at h4
  simp only [Bool.or_eq_false_iff] at h4
  exact ⟨h4.2.1, h4.1⟩
 ·have h4 : (stepC s r).gr = false := by rw [h2.2 r hr]; exact e1
  unfold P.stepC at h4
  rw [if_pos (by rw [hb]; rcases hm with hm | hm <;> simp [hm])] at h4
  simp only [Bool.or_eq_false_iff] at h4
  exact h4.1
 ·have h4 : (stepI s r).gr = false := by rw [h3.2 r hr]; exact e1
  unfold P.stepI at h4
  rw [if_pos hb] at h4
  simp only [Bool.or_eq_false_iff] at h4
  exact h4.1
theorem Shut_.of {s s' : TS} (h : Shut_ o c p s) (h1 : s'.st = s.st) (h2 : s'.mr = s.mr) : Shut_ o c p s' := by
 refine ⟨?_, ?_, ?_⟩
 ·rw [h1, h2]; exact h.ho
 ·rw [h1, h2]; exact h.hc
 ·rw [h1]; exact h.hp
theorem trimK_shut : ∀ (k : Nat) {s : TS}, meas s ≤ k → (s.gr = false → Shut_ o c p s) → Shut_ o c p (trimK o c p k s)
 | 0, s, hm, h => h (by
  cases hg : s.gr with
  | false => rfl
  | true => unfold meas at hm; rw [if_pos hg] at hm; omega)
 | k + 1, s, hm, h => by
  show Shut_ o c p (if s.gr = true then _ else s)
  split
  ·rename_i hg
   refine trimK_shut k (by have := meas_again hg o c p; omega) (fun h2 => ?_)
   have h3 := round_shut (s := ⟨s.st, s.mr, false⟩) h2
   have h4 : P.again s o c p = ⟨s.st, s.mr, false⟩ := h3.1
   rw [h4]
   exact h3.2
  ·rename_i hg
   exact h (by simpa using hg)
end
theorem init_tt (i : List Int) : ∀ (l : List Bool) (q : Nat), tt (i.foldl (fun l k => l.set k.toNat true) l) q ↔ tt l q ∨ ∃ x ∈ i, x.toNat = q ∧ q < l.length := by
 induction i with
 | nil => intro l q; simp
 | cons x i ih =>
  intro l q
  rw [List.foldl_cons, ih, tt_set]
  simp only [List.length_set, List.mem_cons]
  constructor
  ·rintro ((h | ⟨rfl, h⟩) | ⟨y, h1, h2⟩)
   ·exact .inl h
   ·exact .inr ⟨x, .inl rfl, rfl, h⟩
   ·exact .inr ⟨y, .inr h1, h2⟩
  ·rintro (h | ⟨y, rfl | h1, h2, h3⟩)
   ·exact .inl (.inl h)
   ·exact .inl (.inr ⟨h2.symm, by omega⟩)
   ·exact .inr ⟨y, h1, h2, h3⟩
theorem tt_rep {n q : Nat} : ¬ tt (List.replicate n false) q := by
 intro h
 have h1 := tt_lt h
 unfold tt at h
 rw [List.getD_eq_getElem?_getD, List.getElem?_eq_getElem h1] at h
 simp at h
theorem numR_spec : ∀ (l : List Bool) (a : Int), 0 ≤ a → a + l.length < 1000000000 →
 a ≤ (numR l a).2 ∧ (numR l a).2 ≤ a + l.length ∧ (∀ q, tt l q → a ≤ (numR l a).1.getD q 0 ∧ (numR l a).1.getD q 0 < (numR l a).2) ∧ (∀ v, a ≤ v → v < (numR l a).2 → ∃ q, tt l q ∧ (numR l a).1.getD q 0 = v)
 | [], a, _, _ => ⟨Int.le_refl _, by simp [numR], fun q h => by have := tt_lt h; simp at this, fun v h1 h2 => by simp [numR] at h2; omega⟩
 | true :: l, a, h0, hb => by
  simp only [List.length_cons] at hb
  have e : wrap64 (a + 1) = a + 1 := by unfold wrap64; omega
  obtain ⟨h1, h2, h3, h4⟩ := numR_spec l (a + 1) (by omega) (by omega)
  simp only [numR, e, List.length_cons]
  refine ⟨by omega, by omega, fun q hq => ?_, fun v hv hv2 => ?_⟩
  ·cases q with
   | zero => simp; omega
   | succ q =>
    have := h3 q hq
    simp only [List.getD_cons_succ]
    omega
  ·by_cases hva : v = a
   ·exact ⟨0, rfl, by simp [hva]⟩
   ·obtain ⟨q, hq, e2⟩ := h4 v (by omega) hv2
    exact ⟨q + 1, hq, by simp only [List.getD_cons_succ]; exact e2⟩
 | false :: l, a, h0, hb => by
  simp only [List.length_cons] at hb
  obtain ⟨h1, h2, h3, h4⟩ := numR_spec l a h0 (by omega)
  simp only [numR, List.length_cons]
  refine ⟨h1, by omega, fun q hq => ?_, fun v hv hv2 => ?_⟩
  ·cases q with
   | zero => cases hq
   | succ q =>
    have := h3 q hq
    simp only [List.getD_cons_succ]
    exact this
  ·obtain ⟨q, hq, e2⟩ := h4 v hv hv2
   exact ⟨q + 1, hq, by simp only [List.getD_cons_succ]; exact e2⟩
structure MayBe (l : List S51) (n g : Int) (i f : List Int) (o : List TOpen) (c : List TClose) (p : List TInner) : Prop where
 hn : 0 ≤ n ∧ n ≤ 200
 hg : 0 ≤ g ∧ g ≤ 10000
 hz : (o.length : Int) + c.length + p.length ≤ 100000
 hi : ∀ x ∈ i, 0 ≤ x ∧ x < n
 hf : ∀ x ∈ f, 0 ≤ x ∧ x < n
 ho : ∀ r ∈ o, (0 ≤ r.f0 ∧ r.f0 < n) ∧ (0 ≤ r.f2 ∧ r.f2 < n) ∧ isB l r.f1 1 = true ∧ 1 ≤ r.f3 ∧ r.f3 ≤ g
 hc : ∀ r ∈ c, (0 ≤ r.f0 ∧ r.f0 < n) ∧ (0 ≤ r.f3 ∧ r.f3 < n) ∧ isB l r.f1 2 = true ∧ 0 ≤ r.f2 ∧ r.f2 ≤ g
 hp : ∀ r ∈ p, (0 ≤ r.f0 ∧ r.f0 < n) ∧ (0 ≤ r.f2 ∧ r.f2 < n) ∧ isB l r.f1 3 = true
theorem outB_in {n s : Int} (h : outB n s = false) : 0 ≤ s ∧ s < n := by
 unfold outB at h
 simp only [Bool.or_eq_false_iff, decide_eq_false_iff_not] at h
 omega
theorem any_all {α : Type} {p : α → Bool} {l : List α} (h : l.any p = false) : ∀ x ∈ l, p x = false := fun x hx => by
 have := List.any_eq_false.1 h x hx
 simpa using this
theorem MayBe.of {l : List S51} {n g : Int} {i f : List Int} {o : List TOpen} {c : List TClose} {p : List TInner} (h : auto_Check.f l n g i f o c p = some 0) : MayBe l n g i f o c p := by
 unfold auto_Check.f at h
 split at h
 ·simp only [Option.some.injEq] at h
  split at h
  ·cases h
  ·rename_i hb
   split at h
   ·cases h
   ·rename_i hr
    simp only [Bool.not_eq_true, Bool.or_eq_false_iff] at hr
    obtain ⟨⟨⟨⟨h1, h2⟩, h3⟩, h4⟩, h5⟩ := hr
    unfold bigA at hb
    simp only [Bool.or_eq_true, decide_eq_true_eq, not_or] at hb
    refine ⟨by omega, by omega, by omega, fun x hx => outB_in (any_all h1 x hx), fun x hx => outB_in (any_all h2 x hx), fun r hr => ?_, fun r hr => ?_, fun r hr => ?_⟩
    ·have := any_all h3 r hr
     unfold badO at this
     simp only [Bool.or_eq_false_iff, Bool.not_eq_false', decide_eq_false_iff_not] at this
     exact ⟨outB_in this.1, outB_in this.2.1, this.2.2.1, by omega, by omega⟩
    ·have := any_all h4 r hr
     unfold badC at this
     simp only [Bool.or_eq_false_iff, Bool.not_eq_false', decide_eq_false_iff_not] at this
     exact ⟨outB_in this.1, outB_in this.2.1, this.2.2.1, by omega, by omega⟩
    ·have := any_all h5 r hr
     unfold badI at this
     simp only [Bool.or_eq_false_iff, Bool.not_eq_false'] at this
     exact ⟨outB_in this.1, outB_in this.2.1, this.2.2⟩
 ·cases h
theorem MayBe.check {l : List S51} {n g : Int} {i f : List Int} {o : List TOpen} {c : List TClose} {p : List TInner} (h : MayBe l n g i f o c p) (hl : l.length ≤ 1000000000) (hi : i.length ≤ 1000000000) (hf : f.length ≤ 1000000000) : auto_Check.f l n g i f o c p = some 0 := by
 have hn := h.hn
 have hg := h.hg
 have hz := h.hz
 unfold auto_Check.f
 rw [if_pos (by omega)]
 have e1 : bigA n g o.length c.length p.length = false := by
  unfold bigA
  rw [decide_eq_false (by omega), decide_eq_false (by omega), decide_eq_false (by omega), decide_eq_false (by omega), decide_eq_false (by omega)]
  rfl
 have e2 : i.any (outB n) = false := any_none fun x hx => outB_no (h.hi x hx)
 have e3 : f.any (outB n) = false := any_none fun x hx => outB_no (h.hf x hx)
 have e4 : o.any (badO l n g) = false := any_none fun x hx => by
  obtain ⟨h1, h2, h3, h4⟩ := h.ho x hx
  unfold badO
  rw [outB_no h1, outB_no h2, h3, decide_eq_false (by omega), decide_eq_false (by omega)]
  rfl
 have e5 : c.any (badC l n g) = false := any_none fun x hx => by
  obtain ⟨h1, h2, h3, h4⟩ := h.hc x hx
  unfold badC
  rw [outB_no h1, outB_no h2, h3, decide_eq_false (by omega), decide_eq_false (by omega)]
  rfl
 have e6 : p.any (badI l n) = false := any_none fun x hx => by
  obtain ⟨h1, h2, h3⟩ := h.hp x hx
  unfold badI
  rw [outB_no h1, outB_no h2, h3]
  rfl
 rw [e1, e2, e3, e4, e5, e6]
 rfl
theorem once_le {α : Type} {cmp : α → α → Int} (l : List α) : (onceC cmp l).length ≤ l.length := by
 have ins : ∀ (m : List α) (x : α), (insC cmp m x).length ≤ m.length + 1 := by
  intro m x
  induction m with
  | nil => simp [insC]
  | cons y m ih =>
   simp only [insC]
   split
   ·simp
   ·split
    ·simp
    ·simp only [List.length_cons]; omega
 have go : ∀ (l m : List α), (l.foldl (insC cmp) m).length ≤ m.length + l.length := by
  intro l
  induction l with
  | nil => intro m; simp
  | cons x l ih =>
   intro m
   have h1 := ih (insC cmp m x)
   have h2 := ins m x
   simp only [List.foldl_cons, List.length_cons]
   omega
 have := go l []
 simpa [onceC] using this
structure Left (l : List S51) (i : List Int) (f : List Int) (o : List TOpen) (c : List TClose) (p : List TInner) (n g : Int) (v : Int × Int × List Int × List Int × List TOpen × List TClose × List TInner) : Prop where
 may : MayBe l v.1 v.2.1 v.2.2.1 v.2.2.2.1 v.2.2.2.2.1 v.2.2.2.2.2.1 v.2.2.2.2.2.2
 at_ : ∀ x, 0 ≤ x → x < v.1 → x ∈ v.2.2.1 ∨ (∃ r ∈ v.2.2.2.2.1, r.f2 = x) ∨ (∃ r ∈ v.2.2.2.2.2.1, r.f3 = x) ∨ (∃ r ∈ v.2.2.2.2.2.2, r.f2 = x)
 up : ∀ x, 1 ≤ x → x ≤ v.2.1 → ∃ r ∈ v.2.2.2.2.1, r.f3 = x
 le : v.1 ≤ n ∧ v.2.1 ≤ g
 li : v.2.2.1.length ≤ i.length
 lf : v.2.2.2.1.length ≤ f.length
 lo : v.2.2.2.2.1.length ≤ o.length
 lc : v.2.2.2.2.2.1.length ≤ c.length
 lp : v.2.2.2.2.2.2.length ≤ p.length
theorem trim_left {l : List S51} {n g : Int} {i f : List Int} {o : List TOpen} {c : List TClose} {p : List TInner} (h : MayBe l n g i f o c p) : Left l i f o c p n g (trimV (trimS n g i o c p) i f o c p) := by
 have hn := h.hn
 have hg := h.hg
 obtain ⟨s0, hs0⟩ : ∃ s0, s0 = initS n g i := ⟨_, rfl⟩
 obtain ⟨s, hs⟩ : ∃ s, s = trimS n g i o c p := ⟨_, rfl⟩
 have es : s = trimK o c p (meas s0) s0 := by rw [hs, hs0]; rfl
 have hlen := len_trimK o c p (meas s0) s0
 rw [← es] at hlen
 have l0 : s0.st.length = n.toNat ∧ s0.mr.length = (g + 1).toNat := by
  rw [hs0]
  refine ⟨?_, by simp [initS]⟩
  have : ∀ (i : List Int) (m : List Bool), (i.foldl (fun l k => l.set k.toNat true) m).length = m.length := by
   intro i
   induction i with
   | nil => intro m; rfl
   | cons x i ih => intro m; rw [List.foldl_cons, ih, List.length_set]
  show (i.foldl (fun l k => l.set k.toNat true) (List.replicate n.toNat false)).length = _
  rw [this, List.length_replicate]
 have ls : s.st.length = n.toNat := hlen.1.trans l0.1
 have lm : s.mr.length = (g + 1).toNat := hlen.2.trans l0.2
 have r0 : Rch i o c p s0 := by
  rw [hs0]
  refine ⟨fun q hq => ?_, fun q hq => absurd hq tt_rep⟩
  rcases (init_tt i _ q).1 hq with h1 | ⟨x, hx, e, _⟩
  ·exact absurd h1 tt_rep
  ·exact .inl ⟨x, hx, e⟩
 have rk := Rch.tk (meas s0) r0
 rw [← es] at rk
 obtain ⟨rs, hle⟩ := rk
 have sh : Shut_ o c p s := by
  rw [es]
  refine trimK_shut _ (Nat.le_refl _) (fun hg => ?_)
  rw [hs0] at hg
  cases hg
 have iS : ∀ x ∈ i, tt s.st x.toNat := fun x hx => hle.st _ (by
  have h1 := h.hi x hx
  rw [hs0]
  exact (init_tt i _ _).2 (.inr ⟨x, hx, rfl, by rw [List.length_replicate]; omega⟩))
 have mr0 : ¬ tt s.mr 0 := fun h0 => by
  obtain ⟨r, hr, _, e⟩ := rs.mr 0 h0
  have := (h.ho r hr).2.2.2.1
  omega
 obtain ⟨S1, S2, S3, S4⟩ := numR_spec s.st 0 (by omega) (by omega)
 obtain ⟨M1, M2, M3, M4⟩ := numR_spec s.mr 1 (by omega) (by omega)
 have M5 : (numR s.mr 1).2 ≤ 1 + g ∧ (numR s.mr 1).1.getD 0 0 = 0 := by
  cases hm : s.mr with
  | nil => rw [hm] at lm; simp at lm; omega
  | cons b tl =>
   rw [hm] at mr0 lm
   cases b with
   | true => exact absurd rfl mr0
   | false =>
    simp only [List.length_cons] at lm
    have := (numR_spec tl 1 (by omega) (by omega)).2.1
    simp only [numR]
    exact ⟨by omega, rfl⟩
 obtain ⟨N, hN⟩ : ∃ N, N = (numR s.st 0).2 := ⟨_, rfl⟩
 obtain ⟨ns, hns⟩ : ∃ ns, ns = (numR s.st 0).1 := ⟨_, rfl⟩
 obtain ⟨M, hM⟩ : ∃ M, M = (numR s.mr 1).2 := ⟨_, rfl⟩
 obtain ⟨ms, hms⟩ : ∃ ms, ms = (numR s.mr 1).1 := ⟨_, rfl⟩
 have ev : trimV (trimS n g i o c p) i f o c p = (N, wrap64 (M - 1), onceC cmpInt (i.map (rdI ns)), onceC cmpInt ((f.filter (rdB s.st)).map (rdI ns)), onceC cmpOpen (trimO s.st ns ms o), onceC cmpClose (trimC s.st s.mr ns ms c), onceC cmpInner (trimI s.st ns p)) := by
  rw [← hs, hN, hns, hM, hms]; rfl
 rw [← hN] at S1 S2 S3 S4
 rw [← hns] at S3 S4
 rw [← hM] at M1 M2 M3 M4 M5
 rw [← hms] at M3 M4 M5
 have eG : wrap64 (M - 1) = M - 1 := by unfold wrap64; omega
 rw [ev, eG]
 clear ev eG hN hns hM hms hs es hs0
 have inS : ∀ {k : Int}, tt s.st k.toNat → 0 ≤ rdI ns k ∧ rdI ns k < N := fun hk => S3 _ hk
 have inM : ∀ {k : Int}, tt s.mr k.toNat → 1 ≤ rdI ms k ∧ rdI ms k < M := fun hk => M3 _ hk
 have oS : ∀ r ∈ o, tt s.st r.f0.toNat → tt s.st r.f2.toNat ∧ tt s.mr r.f3.toNat := fun r hr ht => by
  have h1 := h.ho r hr
  have h2 := sh.ho r hr (has_iff.2 ⟨h1.1.1, ht⟩)
  exact ⟨lay_no h2.1 h1.2.1.1 (by omega), lay_no h2.2 (by omega) (by omega)⟩
 have cS : ∀ r ∈ c, tt s.st r.f0.toNat → (r.f2 = 0 ∨ tt s.mr r.f2.toNat) → tt s.st r.f3.toNat := fun r hr ht hm => by
  have h1 := h.hc r hr
  have h2 := sh.hc r hr (has_iff.2 ⟨h1.1.1, ht⟩) (hm.imp id fun hm => has_iff.2 ⟨h1.2.2.2.1, hm⟩)
  exact lay_no h2 h1.2.1.1 (by omega)
 have pS : ∀ r ∈ p, tt s.st r.f0.toNat → tt s.st r.f2.toNat := fun r hr ht => by
  have h1 := h.hp r hr
  have h2 := sh.hp r hr (has_iff.2 ⟨h1.1.1, ht⟩)
  exact lay_no h2 h1.2.1.1 (by omega)
 have mI : ∀ {v : Int}, v ∈ onceC cmpInt (i.map (rdI ns)) ↔ ∃ x ∈ i, rdI ns x = v := by
  intro v; rw [totalInt.mem_once, List.mem_map]
 have mO : ∀ {v : TOpen}, v ∈ onceC cmpOpen (trimO s.st ns ms o) ↔ ∃ r ∈ o, tt s.st r.f0.toNat ∧ (⟨rdI ns r.f0, r.f1, rdI ns r.f2, rdI ms r.f3⟩ : TOpen) = v := by
  intro v; rw [totalOpen.mem_once]; unfold trimO; rw [List.mem_map]
  exact ⟨fun ⟨r, h1, h2⟩ => ⟨r, (List.mem_filter.1 h1).1, (List.mem_filter.1 h1).2, h2⟩, fun ⟨r, h1, h2, h3⟩ => ⟨r, List.mem_filter.2 ⟨h1, h2⟩, h3⟩⟩
 have mC : ∀ {v : TClose}, v ∈ onceC cmpClose (trimC s.st s.mr ns ms c) ↔ ∃ r ∈ c, tt s.st r.f0.toNat ∧ (r.f2 = 0 ∨ tt s.mr r.f2.toNat) ∧ (⟨rdI ns r.f0, r.f1, rdI ms r.f2, rdI ns r.f3⟩ : TClose) = v := by
  intro v; rw [totalClose.mem_once]; unfold trimC; rw [List.mem_map]
  refine ⟨fun ⟨r, h1, h2⟩ => ?_, fun ⟨r, h1, h2, h3, h4⟩ => ⟨r, List.mem_filter.2 ⟨h1, ?_⟩, h4⟩⟩
  ·have h3 := (List.mem_filter.1 h1).2
   simp only [Bool.and_eq_true, Bool.or_eq_true, decide_eq_true_eq] at h3
   exact ⟨r, (List.mem_filter.1 h1).1, h3.1, h3.2, h2⟩
  ·simp only [Bool.and_eq_true, Bool.or_eq_true, decide_eq_true_eq]
   exact ⟨h2, h3⟩
 have mP : ∀ {v : TInner}, v ∈ onceC cmpInner (trimI s.st ns p) ↔ ∃ r ∈ p, tt s.st r.f0.toNat ∧ (⟨rdI ns r.f0, r.f1, rdI ns r.f2⟩ : TInner) = v := by
  intro v; rw [totalInner.mem_once]; unfold trimI; rw [List.mem_map]
  exact ⟨fun ⟨r, h1, h2⟩ => ⟨r, (List.mem_filter.1 h1).1, (List.mem_filter.1 h1).2, h2⟩, fun ⟨r, h1, h2, h3⟩ => ⟨r, List.mem_filter.2 ⟨h1, h2⟩, h3⟩⟩
 have zO : (onceC cmpOpen (trimO s.st ns ms o)).length ≤ o.length := Nat.le_trans (once_le _) (by unfold trimO; rw [List.length_map]; exact List.length_filter_le _ _)
 have zC : (onceC cmpClose (trimC s.st s.mr ns ms c)).length ≤ c.length := Nat.le_trans (once_le _) (by unfold trimC; rw [List.length_map]; exact List.length_filter_le _ _)
 have zP : (onceC cmpInner (trimI s.st ns p)).length ≤ p.length := Nat.le_trans (once_le _) (by unfold trimI; rw [List.length_map]; exact List.length_filter_le _ _)
 have hz := h.hz
 have hasT : ∀ {k : Int}, hasB s.st k = true → tt s.st k.toNat := fun hk => (has_iff.1 hk).2
 refine ⟨⟨⟨by show 0 ≤ N; omega, by show N ≤ 200; omega⟩, ⟨by show 0 ≤ M - 1; omega, by show M - 1 ≤ 10000; omega⟩, by show ((onceC cmpOpen (trimO s.st ns ms o)).length : Int) + (onceC cmpClose (trimC s.st s.mr ns ms c)).length + (onceC cmpInner (trimI s.st ns p)).length ≤ 100000; omega, fun x hx => ?_, fun x hx => ?_, fun r hr => ?_, fun r hr => ?_, fun r hr => ?_⟩, fun x h1 h2 => ?_, fun x h1 h2 => ?_, ⟨by show N ≤ n; omega, by show M - 1 ≤ g; omega⟩, Nat.le_trans (once_le _) (by rw [List.length_map]; exact Nat.le_refl _), Nat.le_trans (once_le _) (by rw [List.length_map]; exact List.length_filter_le _ _), zO, zC, zP⟩
 ·obtain ⟨y, hy, rfl⟩ := mI.1 hx
  exact inS (iS y hy)
 ·obtain ⟨y, hy, rfl⟩ := List.mem_map.1 (totalInt.mem_once.1 hx)
  exact inS (List.mem_filter.1 hy).2
 ·obtain ⟨r0, h1, h2, rfl⟩ := mO.1 hr
  have h3 := oS r0 h1 h2
  have h4 := inM h3.2
  exact ⟨inS h2, inS h3.1, (h.ho r0 h1).2.2.1, h4.1, by show rdI ms r0.f3 ≤ M - 1; omega⟩
 ·obtain ⟨r0, h1, h2, h3, rfl⟩ := mC.1 hr
  refine ⟨inS h2, inS (cS r0 h1 h2 h3), (h.hc r0 h1).2.2.1, ?_, ?_⟩
  ·show 0 ≤ rdI ms r0.f2
   rcases h3 with h3 | h3
   ·rw [h3]; show 0 ≤ ms.getD 0 0; rw [M5.2]; omega
   ·have := inM h3; omega
  ·show rdI ms r0.f2 ≤ M - 1
   rcases h3 with h3 | h3
   ·rw [h3]; show ms.getD 0 0 ≤ M - 1; rw [M5.2]; omega
   ·have := inM h3; omega
 ·obtain ⟨r0, h1, h2, rfl⟩ := mP.1 hr
  exact ⟨inS h2, inS (pS r0 h1 h2), (h.hp r0 h1).2.2⟩
 ·obtain ⟨q, hq, e⟩ := S4 x h1 h2
  rcases rs.st q hq with ⟨y, hy, e2⟩ | ⟨r, hr, h3, e2⟩ | ⟨r, hr, h3, h4, e2⟩ | ⟨r, hr, h3, e2⟩
  ·exact .inl (mI.2 ⟨y, hy, by show ns.getD y.toNat 0 = x; rw [e2]; exact e⟩)
  ·exact .inr (.inl ⟨_, mO.2 ⟨r, hr, hasT h3, rfl⟩, by show ns.getD r.f2.toNat 0 = x; rw [e2]; exact e⟩)
  ·exact .inr (.inr (.inl ⟨_, mC.2 ⟨r, hr, hasT h3, h4.imp id fun h5 => (has_iff.1 h5).2, rfl⟩, by show ns.getD r.f3.toNat 0 = x; rw [e2]; exact e⟩))
  ·exact .inr (.inr (.inr ⟨_, mP.2 ⟨r, hr, hasT h3, rfl⟩, by show ns.getD r.f2.toNat 0 = x; rw [e2]; exact e⟩))
 ·obtain ⟨q, hq, e⟩ := M4 x h1 (by have : x ≤ M - 1 := h2; omega)
  obtain ⟨r, hr, h3, e2⟩ := rs.mr q hq
  exact ⟨_, mO.2 ⟨r, hr, hasT h3, rfl⟩, by show ms.getD r.f3.toNat 0 = x; rw [e2]; exact e⟩
end Go.Proofs.YtejpijgfpbcibaaGreat.P
