/- The sort of a row of structs of the call's own: what stands in the row behind it. -/
import Derived.Shelf.SlSortCmp.InsertionK
import Derived.Test.YtjkhdldgmkkhjaaMGrow
set_option linter.unusedVariables false
set_option linter.unusedSimpArgs false
set_option linter.unnecessarySimpa false
namespace Go.Proofs.Ytjkhdldgmkkhjaa.M
open Go.RowKit Go.Sort Go.Shelf Go.Lib
section
variable {α : Type} [Inhabited α] {enc : α → List Value} {k : Nat}
theorem flatK_list (hk : ∀ x, (enc x).length = k) (d : Array α) : (flatK enc k d).toList = d.toList.flatMap enc := by
  have key : ∀ (l : List α) (t : Nat), t < l.length * k → (l.flatMap enc)[t]? = some ((enc (l.getD (t / k) default))[t % k]!) := by
    intro l
    induction l with
    | nil => intro t h; simp at h
    | cons x l ih =>
      intro t h
      simp only [List.flatMap_cons]
      have hk0 : 0 < k := by
        rcases Nat.eq_zero_or_pos k with h0 | h0
        · subst h0; simp at h
        · exact h0
      by_cases ht : t < k
      · rw [List.getElem?_append_left (by rw [hk]; exact ht), Nat.div_eq_of_lt ht, Nat.mod_eq_of_lt ht]
        have hl : t < (enc x).length := by rw [hk]; exact ht
        simp [List.getElem?_eq_getElem hl, List.getElem!_eq_getElem?_getD]
      · have hge : k ≤ t := by omega
        rw [List.getElem?_append_right (by rw [hk]; exact hge), hk, ih (t - k) (by simp [Nat.succ_mul] at h; omega)]
        have h1 : t / k = (t - k) / k + 1 := by
          rw [← Nat.add_div_right _ hk0, Nat.sub_add_cancel hge]
        have h2 : t % k = (t - k) % k := (Nat.mod_eq_sub_mod hge)
        rw [h1, h2]
        simp
  have hlen : ∀ l : List α, (l.flatMap enc).length = l.length * k := by
    intro l
    induction l with
    | nil => simp
    | cons x l ih => simp [ih, hk, Nat.succ_mul, Nat.add_comm]
  apply List.ext_getElem?
  intro t
  by_cases ht : t < d.size * k
  · rw [key d.toList t (by simpa using ht)]
    have h1 : t < (flatK enc k d).toList.length := by simpa using ht
    rw [List.getElem?_eq_getElem h1]
    have h2 := get_flatK enc k d t ht
    rw [getElem!_pos _ t (by simpa using ht)] at h2
    simp only [Array.getElem_toList]
    rw [h2]
    have hd : t / k < d.size := by
      have hk0 : 0 < k := by
        rcases Nat.eq_zero_or_pos k with h0 | h0
        · subst h0; simp at ht
        · exact h0
      exact Nat.div_lt_of_lt_mul (by rw [Nat.mul_comm]; exact ht)
    rw [getElem!_pos d _ hd]
    simp [List.getD, hd]
  · rw [List.getElem?_eq_none (by simpa using ht), List.getElem?_eq_none (by rw [hlen]; simpa using ht)]

/-- what the row holds before: as the sort asks it -/
theorem holds_of_own (hk : ∀ x, (enc x).length = k) {w : World} {base g n cap : Nat} {e : TypeId} {d : Array α} (hd : d.size = n)
    (h : w.ownsRow base e k (.slice (some ⟨g, 0, none⟩) n cap) n (d.toList.flatMap enc)) : HoldsK enc k w g 0 d := by
  rcases h.2 with ⟨h1, _⟩ | ⟨g', cap', cur, h1, _, hg, _, _, hsz, htake⟩
  · cases h1
  · cases h1
    intro j hj
    simp only [size_flatK] at hj
    have hj2 : j < (flatK enc k d).toList.length := by simpa using hj
    have hcur : cur[j]? = some ((flatK enc k d)[j]!) := by
      have h3 : (cur.toList.take (n * k))[j]? = (flatK enc k d).toList[j]? := by rw [htake, flatK_list hk]
      rw [List.getElem?_take_of_lt (by rw [← hd]; exact hj), List.getElem?_eq_getElem hj2] at h3
      rw [← Array.getElem?_toList, h3]
      rw [getElem!_pos _ j (by simpa using hj)]
      simp
    constructor
    · simp [World.cell?, hg, hcur]
    · simp [World.frozen?, hg]

/-- the row behind the sort -/
theorem own_sorted (hk : ∀ x, (enc x).length = k) {w : World} {base g n cap : Nat} {e : TypeId} {xs : List Value} {d' : Array α} (hd : d'.size = n) (m : Nat) (os : Array Obj)
    (h : w.ownsRow base e k (.slice (some ⟨g, 0, none⟩) n cap) n xs) :
    (sortWorldK enc k w g 0 m d' os).ownsRow base e k (.slice (some ⟨g, 0, none⟩) n cap) n (d'.toList.flatMap enc) ∧ w.grownBy (sortWorldK enc k w g 0 m d' os) (some g) := by
  have hsize : (putRowK enc k (Sort.ahead w m) g 0 d').heap.size = w.heap.size := by simp [putRowK, putRow, mapBlock, Sort.ahead]
  have hheap : ∀ i, i < w.heap.size → (sortWorldK enc k w g 0 m d' os).heap[i]? = (putRowK enc k (Sort.ahead w m) g 0 d').heap[i]? := fun i hi => by
    show ((putRowK enc k (Sort.ahead w m) g 0 d').heap ++ os)[i]? = _
    rw [Array.getElem?_append_left (by rw [hsize]; exact hi)]
  have hmod : ∀ i, (putRowK enc k (Sort.ahead w m) g 0 d').heap[i]? = if g = i then (w.heap[i]?).map (onCells (putCells id 0 (flatK enc k d'))) else w.heap[i]? := fun i => by
    show (w.heap.modify g (onCells (putCells id 0 (flatK enc k d'))))[i]? = _
    rw [Array.getElem?_modify]
  rcases h.2 with ⟨h1, _⟩ | ⟨g', cap', cur, h1, hb, hg, hnc, hcm, hsz, htake⟩
  · cases h1
  · cases h1
    have hlt : g < w.heap.size := (Array.getElem?_eq_some_iff.1 hg).1
    refine ⟨⟨?_, .inr ⟨g, cap, putCells id 0 (flatK enc k d') cur, rfl, hb, ?_, hnc, hcm, ?_, ?_⟩⟩, ⟨rfl, rfl, rfl, ?_, ?_⟩⟩
    · have := congrArg List.length (flatK_list hk d')
      rw [← this]; simp [hd]
    · rw [hheap g hlt, hmod g, if_pos rfl, hg]; rfl
    · simp [putCells, hsz]
    · rw [← flatK_list hk]
      have hle : n * k ≤ cur.size := by rw [hsz]; exact Nat.mul_le_mul_right k hnc
      apply List.ext_getElem?
      intro t
      by_cases ht : t < n * k
      · rw [List.getElem?_take_of_lt ht]
        have h1 : t < cur.size := by omega
        have h2 : t < (flatK enc k d').size := by simpa [hd] using ht
        rw [Array.getElem?_toList, Array.getElem?_toList, Array.getElem?_eq_getElem h2]
        simp only [putCells, Array.getElem?_mapIdx, Array.getElem?_eq_getElem h1, Option.map_some]
        rw [if_pos ⟨Nat.zero_le _, by simpa [hd] using ht⟩]
        simp only [id, Nat.sub_zero]
        rw [getElem!_pos _ t h2]
      · rw [List.getElem?_eq_none (by simp; omega), List.getElem?_eq_none (by simp [hd]; omega)]
    · show _ ≤ ((putRowK enc k (Sort.ahead w m) g 0 d').heap ++ os).size
      simp [hsize]
    · intro i hi hne
      rw [hheap i hi, hmod i, if_neg (fun e => hne (by rw [e]))]
end
end Go.Proofs.Ytjkhdldgmkkhjaa.M
