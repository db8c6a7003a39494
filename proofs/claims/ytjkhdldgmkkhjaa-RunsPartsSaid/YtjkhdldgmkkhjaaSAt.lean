/- Rows of places of a machine: their cells, what their stacks lead to; the sort of such a row. -/
import Derived.Test.YtjkhdldgmkkhjaaSOrder
import Derived.Test.YtjkhdldgmkkhjaaLSort
set_option linter.unusedVariables false
set_option linter.unusedSimpArgs false
set_option linter.unnecessarySimpa false
namespace Go.Proofs.Ytjkhdldgmkkhjaa.P
open Go.RowKit Go.Sort Go.Shelf Go.Proofs.YtjkhdldgmkkhjaaW.PrintWords Go.Proofs.YtjkhdldgmkkhjaaW.PrintLast Go.Proofs.YtjkhdldgmkkhjaaW.PrintMore Go.Proofs.Ytjkhdldgmkkhjaa.M

def encE (p : TAt × Value) : List Value := [.int .i64 p.1.f0, p.2]
/-- what an element's stack leads to -/
def Stk (w : World) (base : Nat) (p : TAt × Value) : Prop := (Kd.int .i64).R 3 w base (fun _ => True) p.2 p.1.f1 ∧ p.1.f1.length ≤ 1000000000
def Lone (p q : TAt × Value) : Prop := ∀ k, p.2.ownBlock = some k → q.2.ownBlock ≠ some k
def AtRow (w : World) (base : Nat) (v : Value) (es : List (TAt × Value)) : Prop :=
  w.ownsRow base 48 2 v es.length (es.flatMap encE) ∧ (∀ p ∈ es, Stk w base p) ∧ es.Pairwise Lone
theorem Lone.symm {p q : TAt × Value} (h : Lone p q) : Lone q p := fun k hk e => h k e hk
theorem stk_types {w : World} {base : Nat} {p : TAt × Value} (h : Stk w base p) {g : Nat} {cs : Array Value} (hg : w.heap[g]? = some (.cells cs 48 (0, 0))) {w' : World} (hw : w.grownBy w' (some g)) : Stk w' base p :=
  ⟨Kd.R_mono (Kd.R_step (Kd.R_types h.1 hg (fun q hq => by simp [Kd.int, Kd.scalar] at hq; subst hq; decide)) (fun k hk hlt => hw.block k hlt (nes hk.2))) (fun _ hk => hk.1), h.2⟩
theorem stk_none {w w' : World} {base : Nat} {p : TAt × Value} (h : Stk w base p) (hw : w.grownBy w' none) : Stk w' base p := ⟨Kd.R_step h.1 (fun k _ hlt => hw.block k hlt nen), h.2⟩
theorem stk_one {w w' : World} {base : Nat} {p : TAt × Value} (h : Stk w base p) (hw : Below w.heap.size w w') : Stk w' base p := ⟨Kd.R_below h.1 hw, h.2⟩
theorem row_block {w : World} {base e size n cap : Nat} {ad : Addr} {xs : List Value} (h : w.ownsRow base e size (.slice (some ad) n cap) n xs) : ∃ g cur, ad = ⟨g, 0, none⟩ ∧ base ≤ g ∧ w.heap[g]? = some (.cells cur e (0, 0)) ∧ n ≤ cap ∧ cap ≤ maxLen ∧ cur.size = cap * size ∧ cur.toList.take (n * size) = xs := by
  rcases h.2 with ⟨h1, _⟩ | ⟨g, c, cur, h1, h2, h3, h4, h5, h6, h7⟩
  · cases h1
  · cases h1; exact ⟨g, cur, rfl, h2, h3, h4, h5, h6, h7⟩
theorem one_val {w : World} {base : Nat} {v : Value} {xs : List Int} (h : (Kd.int .i64).R 3 w base (fun _ => True) v xs) : v.oneCell' = true := by
  obtain ⟨A, c, rfl⟩ := Kd.R_slice h
  rfl

theorem sort_at (w : World) (base g n cap : Nat) (es : List (TAt × Value)) (hn : n = es.length) (hne : es ≠ []) (hl : es.length ≤ 1000000000) (h : AtRow w base (.slice (some ⟨g, 0, none⟩) n cap) es) :
    Calls Try.prog 46 #[.slice (some ⟨g, 0, none⟩) n cap, .func (.func 47) #[] #[]] w fun e w' => e = .returned (.tuple #[]) ∧
      ∃ es', es'.Perm es ∧ es'.Pairwise (fun p q => ¬ cmpAt q.1 p.1 < 0) ∧ AtRow w' base (.slice (some ⟨g, 0, none⟩) n cap) es' ∧ w.grownBy w' (some g) := by
  subst hn
  obtain ⟨ho, hs, ha⟩ := h
  obtain ⟨g', cur, hg', hb, hg, hnc, hcm, hsz, htk⟩ := row_block ho
  cases hg'
  have eg : ∀ args w, (callFunc 47 args).run Try.prog w = .ok (.enter 47 args) w := enters_of Try.func47 (by kernel_rfl) rfl
  obtain ⟨p0, hp0⟩ := List.exists_mem_of_ne_nil es hne
  haveI : Inhabited { p // p ∈ es } := ⟨⟨p0, hp0⟩⟩
  let enc : { p // p ∈ es } → List Value := fun p => encE p.1
  have hk : ∀ x, (enc x).length = 2 := fun _ => rfl
  let d : Array { p // p ∈ es } := es.attach.toArray
  have hd : d.size = es.length := by simp [d]
  have hflat : d.toList.flatMap enc = es.flatMap encE := by
    show (es.attach.toArray.toList).flatMap (fun p => encE p.1) = _
    simp
  have hH : HoldsK enc 2 w g 0 d := holds_of_own hk hd (by rw [hflat]; exact ho)
  let cf : { p // p ∈ es } → { p // p ∈ es } → Int := fun p q => cmpAt p.1.1 q.1.1
  have hT : TotalCmp cmpAt := totalAt
  have hO : SWO (ltOf cf) := ⟨fun x => (hT.swo).irrefl _, fun x y z => (hT.swo).trans _ _ _, fun x y z => (hT.swo).ntrans _ _ _⟩
  have hcmp : CmpLays Try.prog 47 #[] enc 2 cf g 0 d.size w := by
    intro m os dk hdk x y
    have hgb := (own_sorted (enc := enc) hk (d' := dk) (by rw [hdk, hd]) m os ho).2
    have sx := stk_types (hs x.1 x.2) hg hgb
    have sy := stk_types (hs y.1 y.2) hg hgb
    obtain ⟨A, ca, ea, la, ra⟩ := Kd.R_reads sx.1
    obtain ⟨B, cb, eb, lb, rb⟩ := Kd.R_reads sy.1
    have := order_calls x.1.1.f0 A ca x.1.1.f1 y.1.1.f0 B cb y.1.1.f1 _ ra la rb lb sx.2
    show Calls Try.prog _ #[.agg #[.int .i64 x.1.1.f0, x.1.2], .agg #[.int .i64 y.1.1.f0, y.1.2]] _ _
    rw [ea, eb]
    exact this.mono fun e w' ⟨he, q, os', hw⟩ => ⟨he, q, os', hw⟩
  have hcon := AnyQ.slices_SortFunc Try.sortAt 2 Try.isAgg48 Try.sizeOf48 enc hk (fun x v hv => by
      simp [enc, encE] at hv
      rcases hv with rfl | rfl
      · rfl
      · exact one_val (hs x.1 x.2).1) cf hO 47 #[] g 0 cap d w eg hcmp hH (Array.getElem?_eq_some_iff.1 hg).1 (by rw [hd]; omega)
  rw [hd] at hcon
  refine hcon.mono ?_
  rintro e w' ⟨he, d', m, os, hp, hso, rfl⟩
  have hd' : d'.size = es.length := hp.1.trans hd
  obtain ⟨o1, o2⟩ := own_sorted (enc := enc) hk (d' := d') hd' m os ho
  have hperm : (d'.toList.map (·.1)).Perm es := by
    have h1 := hp.2.2
    rw [Array.extract_eq_self_of_le (by omega), Array.extract_eq_self_of_le (by omega)] at h1
    have h2 := h1.map (·.1)
    have : d.toList.map (·.1) = es := by
      show (es.attach.toArray.toList).map (·.1) = es
      simp only [List.toList_toArray]
      exact List.attach_map_subtype_val es
    rw [this] at h2
    exact h2
  refine ⟨he, d'.toList.map (·.1), hperm, ?_, ⟨?_, ?_, ?_⟩, o2⟩
  · rw [List.pairwise_map, List.pairwise_iff_getElem]
    intro i j hi hj hij
    have := hso i j (Nat.zero_le _) hij (by simpa [hd'] using hj)
    rw [getElem!_pos d' j (by simpa using hj), getElem!_pos d' i (by simpa using hi)] at this
    simpa [ltOf, cf] using this
  · rw [hperm.length_eq]
    have : (d'.toList.map (·.1)).flatMap encE = d'.toList.flatMap enc := by rw [List.flatMap_map]
    rw [this]; exact o1
  · intro p hp'
    exact stk_types (hs p (hperm.mem_iff.1 hp')) hg o2
  · exact hperm.symm.pairwise ha (fun {x y} h => Lone.symm h)
end Go.Proofs.Ytjkhdldgmkkhjaa.P
