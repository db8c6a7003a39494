/- Words and walks of this claim: UTrim, UOut. -/
import Derived.Test.YtejpijgfpbcibaaGreatQSRound
import Derived.Test.YtejpijgfpbcibaaGreatQSCheck
import Derived.Test.YtejpijgfpbcibaaGreatQP0Etc
section
set_option linter.unusedVariables false
set_option linter.unusedSimpArgs false
set_option linter.unnecessarySimpa false
namespace Go.Proofs.YtejpijgfpbcibaaGreat.P
open Go.RowKit Go.Proofs.YtejpijgfpbcibaaGreatW.PrintWords Go.Proofs.YtejpijgfpbcibaaGreatW.PrintLast Go.Proofs.YtejpijgfpbcibaaGreatW.PrintMore Go.Proofs.YtejpijgfpbcibaaGreat.M
def numR : List Bool → Int → List Int × Int
 | [], n => ([], n)
 | true :: l, n => (n :: (numR l (wrap64 (n + 1))).1, (numR l (wrap64 (n + 1))).2)
 | false :: l, n => (0 :: (numR l n).1, (numR l n).2)
theorem numR_len : ∀ (l : List Bool) (n : Int), (numR l n).1.length = l.length
 | [], n => rfl
 | true :: l, n => by simp [numR, numR_len l]
 | false :: l, n => by simp [numR, numR_len l]
theorem numbers_go (len : Nat) (hlen : len ≤ 1000000000) : ∀ (suf pre : List Bool) (done : List Int) (n : Int) (k : Nat), done.length = pre.length → pre.length + suf.length = len → suf.length < k →
 auto_numbers.l0 k (done ++ List.replicate suf.length 0) n (pre ++ suf) (len : Int) (pre.length : Int) = some (done ++ (numR suf n).1, (numR suf n).2)
 | [], pre, done, n, k + 1, h1, h2, h3 => by
  unfold auto_numbers.l0
  rw [if_neg (by simp at h2; omega)]
  simp [numR]
 | b :: suf, pre, done, n, k + 1, h1, h2, h3 => by
  simp only [List.length_cons] at h2 h3
  unfold auto_numbers.l0
  rw [if_pos (by omega), if_pos (by omega), if_pos (by simp; omega)]
  have e1 : rdOf false (pre ++ b :: suf) (pre.length : Int) = b := by
   unfold rdOf
   simp [List.getD_eq_getElem?_getD]
  have e2 : wrap64 ((pre.length : Int) + 1) = (((pre ++ [b]).length : Nat) : Int) := by rw [List.length_append]; simp only [List.length_cons, List.length_nil]; unfold wrap64; omega
  have e3 : pre ++ b :: suf = (pre ++ [b]) ++ suf := by simp
  rw [e1]
  cases b with
  | true =>
   rw [if_pos rfl, if_pos (by simp; omega), e2, e3]
   have e4 : (done ++ List.replicate (true :: suf).length 0).set (pre.length : Int).toNat n = (done ++ [n]) ++ List.replicate suf.length 0 := by
    rw [Int.toNat_natCast, ← h1, List.set_append_right _ _ (Nat.le_refl _)]
    simp [List.replicate_succ]
   rw [e4, numbers_go len hlen suf (pre ++ [true]) (done ++ [n]) (wrap64 (n + 1)) k (by simp [h1]) (by simp; omega) (by omega)]
   simp [numR]
  | false =>
   rw [if_neg (by decide), e2, e3]
   have e4 : done ++ List.replicate (false :: suf).length 0 = (done ++ [0]) ++ List.replicate suf.length (0 : Int) := by simp [List.replicate_succ]
   rw [e4, numbers_go len hlen suf (pre ++ [false]) (done ++ [0]) n k (by simp [h1]) (by simp; omega) (by omega)]
   simp [numR]
theorem numbers_f (l : List Bool) (n : Int) (hl : l.length ≤ 1000000000) : auto_numbers.f (l.length + 1) l n = some (numR l n) := by
 unfold auto_numbers.f
 rw [if_pos (by omega), if_pos (by omega), Int.toNat_natCast]
 have := numbers_go l.length hl l [] [] n (l.length + 1) rfl (by simp) (by omega)
 simpa using this
def offN (l : List Bool) : Nat := l.countP fun b => !b
theorem off_set {l : List Bool} {k : Nat} (h : k < l.length) (hb : l[k] = false) : offN (l.set k true) < offN l := by
 induction l generalizing k with
 | nil => simp at h
 | cons b l ih =>
  cases k with
  | zero =>
   simp at hb
   subst hb
   simp [offN]
  | succ k =>
   simp at h hb
   have := ih h hb
   unfold offN at this ⊢
   simp only [List.set_cons_succ, List.countP_cons]
   omega
theorem off_lay (l : List Bool) (k : Int) : offN (layL l k) + (if layB l k = true then 1 else 0) ≤ offN l := by
 unfold layL
 split
 ·rename_i h
  have h2 := h
  unfold layB rdOf at h2
  simp only [Bool.and_eq_true, decide_eq_true_eq, Bool.not_eq_true'] at h2
  obtain ⟨h3, h4, h5⟩ := h2
  have hk : k.toNat < l.length := by omega
  rw [List.getD_eq_getElem?_getD, List.getElem?_eq_getElem hk] at h5
  have := off_set hk h5
  omega
 ·simp
def unset (s : TS) : Nat := offN s.st + offN s.mr
def less (s s' : TS) : Prop := unset s' ≤ unset s ∧ (s'.gr = true → s.gr = true ∨ unset s' < unset s)
theorem less.refl (s : TS) : less s s := ⟨Nat.le_refl _, Or.inl⟩
theorem less.trans {a b c : TS} (h : less a b) (k : less b c) : less a c := ⟨Nat.le_trans k.1 h.1, fun hc => by
 rcases k.2 hc with hb | hb
 ·rcases h.2 hb with ha | ha
  ·exact .inl ha
  ·exact .inr (Nat.lt_of_le_of_lt k.1 ha)
 ·exact .inr (Nat.lt_of_lt_of_le hb h.1)⟩
theorem less_stepO (s : TS) (r : TOpen) : less s (stepO s r) := by
 unfold stepO
 split
 ·have h1 := off_lay s.st r.f2
  have h2 := off_lay s.mr r.f3
  refine ⟨by simp only [unset]; split at h1 <;> split at h2 <;> omega, fun h => ?_⟩
  simp only [Bool.or_eq_true] at h
  rcases h with h | h | h
  ·rw [if_pos h] at h2
   right; simp only [unset]; split at h1 <;> omega
  ·rw [if_pos h] at h1
   right; simp only [unset]; split at h2 <;> omega
  ·exact .inl h
 ·exact less.refl s
theorem less_stepC (s : TS) (r : TClose) : less s (stepC s r) := by
 unfold stepC
 split
 ·have h1 := off_lay s.st r.f3
  refine ⟨by simp only [unset]; split at h1 <;> omega, fun h => ?_⟩
  simp only [Bool.or_eq_true] at h
  rcases h with h | h
  ·rw [if_pos h] at h1
   right; simp only [unset]; omega
  ·exact .inl h
 ·exact less.refl s
theorem less_stepI (s : TS) (r : TInner) : less s (stepI s r) := by
 unfold stepI
 split
 ·have h1 := off_lay s.st r.f2
  refine ⟨by simp only [unset]; split at h1 <;> omega, fun h => ?_⟩
  simp only [Bool.or_eq_true] at h
  rcases h with h | h
  ·rw [if_pos h] at h1
   right; simp only [unset]; omega
  ·exact .inl h
 ·exact less.refl s
theorem less_fold {α : Type} (f : TS → α → TS) (h : ∀ s r, less s (f s r)) : ∀ (l : List α) (s : TS), less s (l.foldl f s)
 | [], s => less.refl s
 | r :: l, s => (h s r).trans (less_fold f h l (f s r))
theorem less_round (s : TS) (o : List TOpen) (c : List TClose) (p : List TInner) : less s (roundL s o c p) :=
 ((less_fold stepO less_stepO o s).trans (less_fold stepC less_stepC c _)).trans (less_fold stepI less_stepI p _)
def again (s : TS) (o : List TOpen) (c : List TClose) (p : List TInner) : TS := roundL ⟨s.st, s.mr, false⟩ o c p
def meas (s : TS) : Nat := 2 * unset s + (if s.gr = true then 1 else 0)
theorem meas_again {s : TS} (h : s.gr = true) (o : List TOpen) (c : List TClose) (p : List TInner) : meas (again s o c p) < meas s := by
 have hl := less_round ⟨s.st, s.mr, false⟩ o c p
 have hu : unset (⟨s.st, s.mr, false⟩ : TS) = unset s := rfl
 unfold less at hl
 rw [hu] at hl
 unfold meas
 rw [if_pos h]
 unfold again
 split
 ·rename_i hg
  rcases hl.2 hg with h2 | h2
  ·cases h2
  ·omega
 ·have := hl.1
  omega
def trimK (o : List TOpen) (c : List TClose) (p : List TInner) : Nat → TS → TS
 | 0, s => s
 | k + 1, s => if s.gr = true then trimK o c p k (again s o c p) else s
theorem trimK_more (o : List TOpen) (c : List TClose) (p : List TInner) : ∀ (k j : Nat) (s : TS), meas s ≤ k → meas s ≤ j → trimK o c p k s = trimK o c p j s
 | 0, 0, s, _, _ => rfl
 | 0, j + 1, s, h, _ => by
  have hg : ¬ s.gr = true := fun hg => by unfold meas at h; rw [if_pos hg] at h; omega
  show s = if s.gr = true then _ else s
  rw [if_neg hg]
 | k + 1, 0, s, _, h => by
  have hg : ¬ s.gr = true := fun hg => by unfold meas at h; rw [if_pos hg] at h; omega
  show (if s.gr = true then _ else s) = s
  rw [if_neg hg]
 | k + 1, j + 1, s, h1, h2 => by
  show (if s.gr = true then _ else s) = if s.gr = true then _ else s
  by_cases hg : s.gr = true
  ·rw [if_pos hg, if_pos hg]
   have := meas_again hg o c p
   exact trimK_more o c p k j _ (by omega) (by omega)
  ·rw [if_neg hg, if_neg hg]
def trimF (s : TS) (o : List TOpen) (c : List TClose) (p : List TInner) : TS := trimK o c p (meas s) s
theorem trimF_go {s : TS} (h : s.gr = true) (o : List TOpen) (c : List TClose) (p : List TInner) : trimF (again s o c p) o c p = trimF s o c p := by
 have := meas_again h o c p
 unfold trimF
 obtain ⟨k, hk⟩ : ∃ k, meas s = k + 1 := ⟨meas s - 1, by omega⟩
 rw [hk]
 show _ = if s.gr = true then _ else s
 rw [if_pos h]
 exact trimK_more o c p _ _ _ (Nat.le_refl _) (by omega)
theorem trimF_end {s : TS} (h : s.gr = false) (o : List TOpen) (c : List TClose) (p : List TInner) : trimF s o c p = s := by
 unfold trimF
 cases meas s with
 | zero => rfl
 | succ k => show (if s.gr = true then _ else s) = s; rw [if_neg (by rw [h]; decide)]
theorem len_stepO (s : TS) (r : TOpen) : (stepO s r).st.length = s.st.length ∧ (stepO s r).mr.length = s.mr.length := by
 unfold stepO; split <;> simp [layL_len]
theorem len_stepC (s : TS) (r : TClose) : (stepC s r).st.length = s.st.length ∧ (stepC s r).mr.length = s.mr.length := by
 unfold stepC; split <;> simp [layL_len]
theorem len_stepI (s : TS) (r : TInner) : (stepI s r).st.length = s.st.length ∧ (stepI s r).mr.length = s.mr.length := by
 unfold stepI; split <;> simp [layL_len]
theorem len_fold {α : Type} (f : TS → α → TS) (h : ∀ s r, (f s r).st.length = s.st.length ∧ (f s r).mr.length = s.mr.length) : ∀ (l : List α) (s : TS), (l.foldl f s).st.length = s.st.length ∧ (l.foldl f s).mr.length = s.mr.length
 | [], s => ⟨rfl, rfl⟩
 | r :: l, s => ⟨(len_fold f h l _).1.trans (h s r).1, (len_fold f h l _).2.trans (h s r).2⟩
theorem len_round (s : TS) (o : List TOpen) (c : List TClose) (p : List TInner) : (roundL s o c p).st.length = s.st.length ∧ (roundL s o c p).mr.length = s.mr.length :=
 ⟨((len_fold stepI len_stepI p _).1.trans (len_fold stepC len_stepC c _).1).trans (len_fold stepO len_stepO o s).1, ((len_fold stepI len_stepI p _).2.trans (len_fold stepC len_stepC c _).2).trans (len_fold stepO len_stepO o s).2⟩
theorem len_trimK (o : List TOpen) (c : List TClose) (p : List TInner) : ∀ (k : Nat) (s : TS), (trimK o c p k s).st.length = s.st.length ∧ (trimK o c p k s).mr.length = s.mr.length
 | 0, s => ⟨rfl, rfl⟩
 | k + 1, s => by
  show (if s.gr = true then _ else s).st.length = _ ∧ (if s.gr = true then _ else s).mr.length = _
  by_cases hg : s.gr = true
  ·rw [if_pos hg]
   exact ⟨(len_trimK o c p k _).1.trans (len_round _ o c p).1, (len_trimK o c p k _).2.trans (len_round _ o c p).2⟩
  ·rw [if_neg hg]; exact ⟨rfl, rfl⟩
def initS (n g : Int) (i : List Int) : TS := ⟨i.foldl (fun l k => l.set k.toNat true) (List.replicate n.toNat false), List.replicate (g + 1).toNat false, true⟩
def rdB (l : List Bool) (k : Int) : Bool := rdOf false l k
def rdI (l : List Int) (k : Int) : Int := rdOf 0 l k
def trimO (st : List Bool) (ns gs : List Int) (l : List TOpen) : List TOpen := (l.filter fun r => rdB st r.f0).map fun r => ⟨rdI ns r.f0, r.f1, rdI ns r.f2, rdI gs r.f3⟩
def trimC (st mk : List Bool) (ns gs : List Int) (l : List TClose) : List TClose := (l.filter fun r => rdB st r.f0 && (decide (r.f2 = 0) || rdB mk r.f2)).map fun r => ⟨rdI ns r.f0, r.f1, rdI gs r.f2, rdI ns r.f3⟩
def trimI (st : List Bool) (ns : List Int) (l : List TInner) : List TInner := (l.filter fun r => rdB st r.f0).map fun r => ⟨rdI ns r.f0, r.f1, rdI ns r.f2⟩
end Go.Proofs.YtejpijgfpbcibaaGreat.P
end
section
set_option linter.unusedVariables false
set_option linter.unusedSimpArgs false
set_option linter.unnecessarySimpa false
namespace Go.Proofs.YtejpijgfpbcibaaGreat.P
open Go.RowKit Go.Proofs.YtejpijgfpbcibaaGreatW.PrintWords Go.Proofs.YtejpijgfpbcibaaGreatW.PrintLast Go.Proofs.YtejpijgfpbcibaaGreatW.PrintMore Go.Proofs.YtejpijgfpbcibaaGreat.M
structure OutR (w wO : World) (go : Nat) (N G : Value) (v2 v3 v4 v5 v6 : Value) (r2 r3 : List Int) (r4 : List TOpen) (r5 : List TClose) (r6 : List TInner) : Prop where
 b : Below wO.heap.size wO w
 gin : wO.heap.size ≤ go
 t : w.heap[go]? = some (.cells #[N, G, v2, v3, v4, v5, v6] 30 (0, 0))
 r2 : Kd.R (Kd.int .i64) 3 w wO.heap.size (fun k => some k = v2.ownBlock) v2 r2
 r3 : Kd.R (Kd.int .i64) 3 w wO.heap.size (fun k => some k = v3.ownBlock) v3 r3
 r4 : Kd.R k36 36 w wO.heap.size (fun k => some k = v4.ownBlock) v4 r4
 r5 : Kd.R k38 38 w wO.heap.size (fun k => some k = v5.ownBlock) v5 r5
 r6 : Kd.R k40 40 w wO.heap.size (fun k => some k = v6.ownBlock) v6 r6
 ne : ∀ k, some k = v2.ownBlock → some k ≠ v3.ownBlock
section
variable {w w' wO : World} {go : Nat} {N G v2 v3 v4 v5 v6 v' : Value} {r2 r3 : List Int} {r4 : List TOpen} {r5 : List TClose} {r6 : List TInner}
theorem OutR.below (h : OutR w wO go N G v2 v3 v4 v5 v6 r2 r3 r4 r5 r6) (hb : Below w.heap.size w w') : OutR w' wO go N G v2 v3 v4 v5 v6 r2 r3 r4 r5 r6 :=
 ⟨below_then h.b h.b.size hb, h.gin, blk_below h.t hb, Kd.R_below h.r2 hb, Kd.R_below h.r3 hb, Kd.R_below h.r4 hb, Kd.R_below h.r5 hb, Kd.R_below h.r6 hb, h.ne⟩
theorem OutR.made (hb : Below wO.heap.size wO w) (hg : wO.heap.size ≤ go) (ht : w.heap[go]? = some (.cells #[N, G, .slice none 0 0, .slice none 0 0, .slice none 0 0, .slice none 0 0, .slice none 0 0] 30 (0, 0))) : OutR w wO go N G (.slice none 0 0) (.slice none 0 0) (.slice none 0 0) (.slice none 0 0) (.slice none 0 0) [] [] [] [] [] :=
 ⟨hb, hg, ht, Kd.R_nil _ _ _ _ _, Kd.R_nil _ _ _ _ _, Kd.R_nil _ _ _ _ _, Kd.R_nil _ _ _ _ _, Kd.R_nil _ _ _ _ _, fun k h => by cases h⟩
theorem OutR.app2 {p : Int} {ok : Nat → Prop} (h : OutR w wO go N G v2 v3 v4 v5 v6 r2 r3 r4 r5 r6) (hr : Kd.R (Kd.int .i64) 3 w' wO.heap.size ok v' (r2 ++ [p])) (hb : Below wO.heap.size wO w') (hg : w.grownBy w' v2.ownBlock) (hat : v'.ownBlock = v2.ownBlock ∨ ∃ b, v'.ownBlock = some b ∧ w.heap.size ≤ b) : OutR (w'.setCell ⟨go, 2, none⟩ v') wO go N G v' v3 v4 v5 v6 (r2 ++ [p]) r3 r4 r5 r6 :=
 ⟨hb.setCell h.gin _, h.gin, blk_put (blk_grown h.t hg (Kd.R_ne h.r2 h.t (by decide))) 2 v' rfl, Kd.R_far (Kd.R_tight rfl hr) (fun k hk e => Kd.R_ne hr (blk_grown h.t hg (Kd.R_ne h.r2 h.t (by decide))) (by decide) (by rw [← hk]; exact congrArg some e.symm)) _, (let hz := Kd.R_grown h.r3 hg (fun k hk e => h.ne k e hk); Kd.R_far hz (fun k hk e => Kd.R_ne hz (blk_grown h.t hg (Kd.R_ne h.r2 h.t (by decide))) (by decide) (by rw [← hk]; exact congrArg some e.symm)) _), (let hz := Kd.R_over' h.r4 (Kd.R_typed h.r2) (by intro q hq; rcases List.mem_cons.1 hq with rfl | hq; decide; cases hq) hg; Kd.R_far hz (fun k hk e => Kd.R_ne hz (blk_grown h.t hg (Kd.R_ne h.r2 h.t (by decide))) (by decide) (by rw [← hk]; exact congrArg some e.symm)) _), (let hz := Kd.R_over' h.r5 (Kd.R_typed h.r2) (by intro q hq; rcases List.mem_cons.1 hq with rfl | hq; decide; cases hq) hg; Kd.R_far hz (fun k hk e => Kd.R_ne hz (blk_grown h.t hg (Kd.R_ne h.r2 h.t (by decide))) (by decide) (by rw [← hk]; exact congrArg some e.symm)) _), (let hz := Kd.R_over' h.r6 (Kd.R_typed h.r2) (by intro q hq; rcases List.mem_cons.1 hq with rfl | hq; decide; cases hq) hg; Kd.R_far hz (fun k hk e => Kd.R_ne hz (blk_grown h.t hg (Kd.R_ne h.r2 h.t (by decide))) (by decide) (by rw [← hk]; exact congrArg some e.symm)) _), fun k hk e => by
  rcases hat with ha | ⟨b, ha, hb2⟩
  ·exact h.ne k (by rw [← ha]; exact hk) e
  ·rw [ha] at hk
   cases hk
   have := Kd.R_lt h.r3 k e.symm
   omega⟩
theorem OutR.app3 {p : Int} {ok : Nat → Prop} (h : OutR w wO go N G v2 v3 v4 v5 v6 r2 r3 r4 r5 r6) (hr : Kd.R (Kd.int .i64) 3 w' wO.heap.size ok v' (r3 ++ [p])) (hb : Below wO.heap.size wO w') (hg : w.grownBy w' v3.ownBlock) (hat : v'.ownBlock = v3.ownBlock ∨ ∃ b, v'.ownBlock = some b ∧ w.heap.size ≤ b) : OutR (w'.setCell ⟨go, 3, none⟩ v') wO go N G v2 v' v4 v5 v6 r2 (r3 ++ [p]) r4 r5 r6 :=
 ⟨hb.setCell h.gin _, h.gin, blk_put (blk_grown h.t hg (Kd.R_ne h.r3 h.t (by decide))) 3 v' rfl, (let hz := Kd.R_grown h.r2 hg (fun k hk e => h.ne k hk e); Kd.R_far hz (fun k hk e => Kd.R_ne hz (blk_grown h.t hg (Kd.R_ne h.r3 h.t (by decide))) (by decide) (by rw [← hk]; exact congrArg some e.symm)) _), Kd.R_far (Kd.R_tight rfl hr) (fun k hk e => Kd.R_ne hr (blk_grown h.t hg (Kd.R_ne h.r3 h.t (by decide))) (by decide) (by rw [← hk]; exact congrArg some e.symm)) _, (let hz := Kd.R_over' h.r4 (Kd.R_typed h.r3) (by intro q hq; rcases List.mem_cons.1 hq with rfl | hq; decide; cases hq) hg; Kd.R_far hz (fun k hk e => Kd.R_ne hz (blk_grown h.t hg (Kd.R_ne h.r3 h.t (by decide))) (by decide) (by rw [← hk]; exact congrArg some e.symm)) _), (let hz := Kd.R_over' h.r5 (Kd.R_typed h.r3) (by intro q hq; rcases List.mem_cons.1 hq with rfl | hq; decide; cases hq) hg; Kd.R_far hz (fun k hk e => Kd.R_ne hz (blk_grown h.t hg (Kd.R_ne h.r3 h.t (by decide))) (by decide) (by rw [← hk]; exact congrArg some e.symm)) _), (let hz := Kd.R_over' h.r6 (Kd.R_typed h.r3) (by intro q hq; rcases List.mem_cons.1 hq with rfl | hq; decide; cases hq) hg; Kd.R_far hz (fun k hk e => Kd.R_ne hz (blk_grown h.t hg (Kd.R_ne h.r3 h.t (by decide))) (by decide) (by rw [← hk]; exact congrArg some e.symm)) _), fun k e hk => by
  rcases hat with ha | ⟨b, ha, hb2⟩
  ·exact h.ne k e (by rw [← ha]; exact hk)
  ·rw [ha] at hk
   cases hk
   have := Kd.R_lt h.r2 k e.symm
   omega⟩
theorem OutR.app4 {p : TOpen} {ok : Nat → Prop} (h : OutR w wO go N G v2 v3 v4 v5 v6 r2 r3 r4 r5 r6) (hr : Kd.R k36 36 w' wO.heap.size ok v' (r4 ++ [p])) (hb : Below wO.heap.size wO w') (hg : w.grownBy w' v4.ownBlock) (hat : v'.ownBlock = v4.ownBlock ∨ ∃ b, v'.ownBlock = some b ∧ w.heap.size ≤ b) : OutR (w'.setCell ⟨go, 4, none⟩ v') wO go N G v2 v3 v' v5 v6 r2 r3 (r4 ++ [p]) r5 r6 :=
 ⟨hb.setCell h.gin _, h.gin, blk_put (blk_grown h.t hg (Kd.R_ne h.r4 h.t (by decide))) 4 v' rfl, (let hz := Kd.R_over' h.r2 (Kd.R_typed h.r4) (by intro q hq; rcases List.mem_cons.1 hq with rfl | hq; decide; cases hq) hg; Kd.R_far hz (fun k hk e => Kd.R_ne hz (blk_grown h.t hg (Kd.R_ne h.r4 h.t (by decide))) (by decide) (by rw [← hk]; exact congrArg some e.symm)) _), (let hz := Kd.R_over' h.r3 (Kd.R_typed h.r4) (by intro q hq; rcases List.mem_cons.1 hq with rfl | hq; decide; cases hq) hg; Kd.R_far hz (fun k hk e => Kd.R_ne hz (blk_grown h.t hg (Kd.R_ne h.r4 h.t (by decide))) (by decide) (by rw [← hk]; exact congrArg some e.symm)) _), Kd.R_far (Kd.R_tight rfl hr) (fun k hk e => Kd.R_ne hr (blk_grown h.t hg (Kd.R_ne h.r4 h.t (by decide))) (by decide) (by rw [← hk]; exact congrArg some e.symm)) _, (let hz := Kd.R_over' h.r5 (Kd.R_typed h.r4) (by intro q hq; rcases List.mem_cons.1 hq with rfl | hq; decide; cases hq) hg; Kd.R_far hz (fun k hk e => Kd.R_ne hz (blk_grown h.t hg (Kd.R_ne h.r4 h.t (by decide))) (by decide) (by rw [← hk]; exact congrArg some e.symm)) _), (let hz := Kd.R_over' h.r6 (Kd.R_typed h.r4) (by intro q hq; rcases List.mem_cons.1 hq with rfl | hq; decide; cases hq) hg; Kd.R_far hz (fun k hk e => Kd.R_ne hz (blk_grown h.t hg (Kd.R_ne h.r4 h.t (by decide))) (by decide) (by rw [← hk]; exact congrArg some e.symm)) _), h.ne⟩
theorem OutR.app5 {p : TClose} {ok : Nat → Prop} (h : OutR w wO go N G v2 v3 v4 v5 v6 r2 r3 r4 r5 r6) (hr : Kd.R k38 38 w' wO.heap.size ok v' (r5 ++ [p])) (hb : Below wO.heap.size wO w') (hg : w.grownBy w' v5.ownBlock) (hat : v'.ownBlock = v5.ownBlock ∨ ∃ b, v'.ownBlock = some b ∧ w.heap.size ≤ b) : OutR (w'.setCell ⟨go, 5, none⟩ v') wO go N G v2 v3 v4 v' v6 r2 r3 r4 (r5 ++ [p]) r6 :=
 ⟨hb.setCell h.gin _, h.gin, blk_put (blk_grown h.t hg (Kd.R_ne h.r5 h.t (by decide))) 5 v' rfl, (let hz := Kd.R_over' h.r2 (Kd.R_typed h.r5) (by intro q hq; rcases List.mem_cons.1 hq with rfl | hq; decide; cases hq) hg; Kd.R_far hz (fun k hk e => Kd.R_ne hz (blk_grown h.t hg (Kd.R_ne h.r5 h.t (by decide))) (by decide) (by rw [← hk]; exact congrArg some e.symm)) _), (let hz := Kd.R_over' h.r3 (Kd.R_typed h.r5) (by intro q hq; rcases List.mem_cons.1 hq with rfl | hq; decide; cases hq) hg; Kd.R_far hz (fun k hk e => Kd.R_ne hz (blk_grown h.t hg (Kd.R_ne h.r5 h.t (by decide))) (by decide) (by rw [← hk]; exact congrArg some e.symm)) _), (let hz := Kd.R_over' h.r4 (Kd.R_typed h.r5) (by intro q hq; rcases List.mem_cons.1 hq with rfl | hq; decide; cases hq) hg; Kd.R_far hz (fun k hk e => Kd.R_ne hz (blk_grown h.t hg (Kd.R_ne h.r5 h.t (by decide))) (by decide) (by rw [← hk]; exact congrArg some e.symm)) _), Kd.R_far (Kd.R_tight rfl hr) (fun k hk e => Kd.R_ne hr (blk_grown h.t hg (Kd.R_ne h.r5 h.t (by decide))) (by decide) (by rw [← hk]; exact congrArg some e.symm)) _, (let hz := Kd.R_over' h.r6 (Kd.R_typed h.r5) (by intro q hq; rcases List.mem_cons.1 hq with rfl | hq; decide; cases hq) hg; Kd.R_far hz (fun k hk e => Kd.R_ne hz (blk_grown h.t hg (Kd.R_ne h.r5 h.t (by decide))) (by decide) (by rw [← hk]; exact congrArg some e.symm)) _), h.ne⟩
theorem OutR.app6 {p : TInner} {ok : Nat → Prop} (h : OutR w wO go N G v2 v3 v4 v5 v6 r2 r3 r4 r5 r6) (hr : Kd.R k40 40 w' wO.heap.size ok v' (r6 ++ [p])) (hb : Below wO.heap.size wO w') (hg : w.grownBy w' v6.ownBlock) (hat : v'.ownBlock = v6.ownBlock ∨ ∃ b, v'.ownBlock = some b ∧ w.heap.size ≤ b) : OutR (w'.setCell ⟨go, 6, none⟩ v') wO go N G v2 v3 v4 v5 v' r2 r3 r4 r5 (r6 ++ [p]) :=
 ⟨hb.setCell h.gin _, h.gin, blk_put (blk_grown h.t hg (Kd.R_ne h.r6 h.t (by decide))) 6 v' rfl, (let hz := Kd.R_over' h.r2 (Kd.R_typed h.r6) (by intro q hq; rcases List.mem_cons.1 hq with rfl | hq; decide; cases hq) hg; Kd.R_far hz (fun k hk e => Kd.R_ne hz (blk_grown h.t hg (Kd.R_ne h.r6 h.t (by decide))) (by decide) (by rw [← hk]; exact congrArg some e.symm)) _), (let hz := Kd.R_over' h.r3 (Kd.R_typed h.r6) (by intro q hq; rcases List.mem_cons.1 hq with rfl | hq; decide; cases hq) hg; Kd.R_far hz (fun k hk e => Kd.R_ne hz (blk_grown h.t hg (Kd.R_ne h.r6 h.t (by decide))) (by decide) (by rw [← hk]; exact congrArg some e.symm)) _), (let hz := Kd.R_over' h.r4 (Kd.R_typed h.r6) (by intro q hq; rcases List.mem_cons.1 hq with rfl | hq; decide; cases hq) hg; Kd.R_far hz (fun k hk e => Kd.R_ne hz (blk_grown h.t hg (Kd.R_ne h.r6 h.t (by decide))) (by decide) (by rw [← hk]; exact congrArg some e.symm)) _), (let hz := Kd.R_over' h.r5 (Kd.R_typed h.r6) (by intro q hq; rcases List.mem_cons.1 hq with rfl | hq; decide; cases hq) hg; Kd.R_far hz (fun k hk e => Kd.R_ne hz (blk_grown h.t hg (Kd.R_ne h.r6 h.t (by decide))) (by decide) (by rw [← hk]; exact congrArg some e.symm)) _), Kd.R_far (Kd.R_tight rfl hr) (fun k hk e => Kd.R_ne hr (blk_grown h.t hg (Kd.R_ne h.r6 h.t (by decide))) (by decide) (by rw [← hk]; exact congrArg some e.symm)) _, h.ne⟩
end
theorem numbers_n (A : Option Addr) (c m : Nat) (l : List Bool) (a : Int) (w : World) (hn : m = l.length) (hr : Kd.C Kd.bool w A l.length l) (hc : m ≤ c) (hl : l.length ≤ 1000000000) :
 Calls Tryz.prog 37 #[.slice A m c, .int .i64 a] w fun e w' => ∃ v0_ : Value, e = .returned (.tuple #[v0_, .int .i64 (numR l a).2]) ∧ Kd.R (Kd.int .i64) 3 w' w.heap.size (fun _ => True) v0_ (numR l a).1 ∧ Below w.heap.size w w' := by
 subst hn
 exact auto_numbers.calls (l.length + 1) A c l a _ _ w hr hc (numbers_f l a hl)
theorem rowN_form {w : World} {base : Nat} {ok : Nat → Prop} {v : Value} {xs : List Int} (h : Kd.R (Kd.int .i64) 3 w base ok v xs) {m : Nat} (hm : xs.length = m) : ∃ A c, v = .slice A m c := by
 subst hm
 exact Kd.R_slice h
theorem num_at {w : World} {A : Option Addr} {xs : List Int} {n : Nat} (h : Kd.C (Kd.int .i64) w A n xs) (x : Int) (h0 : 0 ≤ x) (h1 : x < (xs.length : Int)) : ∃ ad, A = some ad ∧ w.cell? (ad.add x.toNat) = some (.int .i64 (rdI xs x)) := by
 obtain ⟨ad, e, hc⟩ := int_at h x.toNat (by omega)
 refine ⟨ad, e, hc.trans ?_⟩
 unfold rdI rdOf
 rw [List.getD_eq_getElem?_getD, List.getElem?_eq_getElem (show x.toNat < xs.length by omega)]
 rfl
theorem filter_next {α : Type} (p : α → Bool) (l : List α) (i : Nat) (h : i < l.length) : (l.take (i + 1)).filter p = (l.take i).filter p ++ (if p l[i] = true then [l[i]] else []) := by
 rw [List.take_add_one, List.getElem?_eq_getElem h, List.filter_append]
 congr 1
 show List.filter p [l[i]] = _
 cases hp : p l[i] <;> simp [hp]
end Go.Proofs.YtejpijgfpbcibaaGreat.P
end
