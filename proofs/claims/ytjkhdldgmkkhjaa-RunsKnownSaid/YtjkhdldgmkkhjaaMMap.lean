/- Maps as lists of pairs: a map's block holds a list of keys and values; a look-up, a store, a range over it, as the walk meets them. -/
import Derived.Maps.RangeRun
import Derived.Maps.RangeWalk
import Derived.Maps.OwnOps
import Derived.Laws.StructEq
import Derived.WalkKit
import Derived.Below
import Derived.KernelRfl
import Derived.Deep.Draws
set_option linter.unusedVariables false
set_option linter.unusedSimpArgs false
set_option linter.unnecessarySimpa false
namespace Go.Proofs.Ytjkhdldgmkkhjaa.M
open Go.RowKit Go.MapKept
open Go.ChangeMaps (setBlock)

/-- keys of a type, by an encoding -/
structure KeyB {α : Type} (P : Program) (kt : TypeId) (enc : α → Value) : Prop where
  inj : ∀ {x y}, enc x = enc y → x = y
  check : ∀ (w : World) (em : Bool) (x : α), (Instr.checkKey em 10000 kt (enc x)).run P w = .ok () w
  find : ∀ (w : World) (x : α) (es : List MapEntry) (ks : List α), es.map (·.key) = ks.map enc →
    ((Instr.findKey kt (enc x) es).run P w = .ok none w ∧ x ∉ ks) ∨
    ∃ j e, (Instr.findKey kt (enc x) es).run P w = .ok (some (j, e.val)) w ∧ es[j]? = some e ∧ ks[j]? = some x
  stays : ∀ (w : World) (x : α), (Instr.keyThatStays (enc x) (enc x)).run P w = .ok (enc x) w

/-- keys whose equality is asked at once (integers, strings) -/
theorem keyB_plain {α : Type} {P : Program} {kt : TypeId} {d : TypeDesc} {enc : α → Value} (hd : P.underlying kt = some d) (inj : ∀ {x y}, enc x = enc y → x = y)
    (hk : ∀ x, IsKey d (enc x)) : KeyB P kt enc where
  inj := inj
  check w em x := run_checkKey hd (hk x) em 9999
  stays w x := run_keyThatStays (hk x)
  find w x es ks h := by
    have hks : ∀ y ∈ es, IsKey d y.key := fun y hy => by
      have : y.key ∈ es.map (·.key) := List.mem_map_of_mem hy
      rw [h] at this
      obtain ⟨z, _, hz⟩ := List.mem_map.1 this
      rw [← hz]; exact hk z
    rcases findNow_spec (hk x) es 0 hks with ⟨h1, h2⟩ | ⟨j, e0, h1, h2, h3⟩
    · refine Or.inl ⟨run_findKey hd h1, fun hx => ?_⟩
      have : enc x ∈ ks.map enc := List.mem_map_of_mem hx
      rw [← h] at this
      obtain ⟨y, hy, he⟩ := List.mem_map.1 this
      exact h2 y hy he
    · refine Or.inr ⟨j, e0, by simpa using run_findKey hd h1, h2, ?_⟩
      have h4 : (es.map (·.key))[j]? = some (enc x) := by rw [List.getElem?_map, h2]; simp [h3]
      rw [h, List.getElem?_map] at h4
      cases hj : ks[j]? with
      | none => rw [hj] at h4; cases h4
      | some z => rw [hj] at h4; simp at h4; rw [inj h4]
theorem keyB_int {P : Program} {kt : TypeId} {q : IntKind} (hd : P.underlying kt = some (.int q)) : KeyB P kt (Value.int q) :=
  keyB_plain hd (fun h => by injection h) (fun x => by simp [IsKey])
theorem keyB_string {P : Program} {kt : TypeId} (hd : P.underlying kt = some .string) : KeyB P kt Value.string :=
  keyB_plain hd (fun h => by injection h) (fun x => by simp [IsKey])

/-- keys whose equality is a run of 'Op.equal' (structs, arrays) -/
theorem keyB_asked {α : Type} [DecidableEq α] {P : Program} {kt : TypeId} {d : TypeDesc} {enc : α → Value} (hd : P.underlying kt = some d) (inj : ∀ {x y}, enc x = enc y → x = y)
    (hn : ∀ x y, Instr.sameNow d (enc x) (enc y) = none) (hc : ∀ (w : World) (em : Bool) (x : α), (Instr.checkKey em 10000 kt (enc x)).run P w = .ok () w)
    (he : ∀ (w : World) x y, (Op.equal kt (enc x) (enc y)).run P w = .ok (decide (x = y)) w) (hs : ∀ x, Instr.sameBits 10000 (enc x) (enc x) = true) : KeyB P kt enc where
  inj := inj
  check := hc
  stays w x := by simp [Instr.keyThatStays, hs x]
  find w x es ks h := by
    have ask : ∀ (es : List MapEntry) (ks : List α) (i : Nat), es.map (·.key) = ks.map enc →
        ((Instr.findAsking kt (enc x) es i).run P w = .ok none w ∧ x ∉ ks) ∨
        ∃ j e, (Instr.findAsking kt (enc x) es i).run P w = .ok (some (i + j, e.val)) w ∧ es[j]? = some e ∧ ks[j]? = some x := by
      intro es
      induction es with
      | nil =>
        intro ks i h
        cases ks with
        | nil => exact Or.inl ⟨by simp [Instr.findAsking], by simp⟩
        | cons z ks => simp at h
      | cons e es ih =>
        intro ks i h
        cases ks with
        | nil => simp at h
        | cons z ks =>
          simp at h
          obtain ⟨h1, h2⟩ := h
          by_cases hz : x = z
          · subst hz
            refine Or.inr ⟨0, e, ?_, by simp, by simp⟩
            simp [Instr.findAsking, h1, he, Result.andThen]
          · rcases ih ks (i + 1) (by simpa using h2) with ⟨g1, g2⟩ | ⟨j, e', g1, g2, g3⟩
            · refine Or.inl ⟨?_, by simp [hz, g2]⟩
              simp [Instr.findAsking, h1, he, Result.andThen, hz, g1]
            · refine Or.inr ⟨j + 1, e', ?_, by simpa using g2, by simpa using g3⟩
              simp [Instr.findAsking, h1, he, Result.andThen, hz, g1]
              omega
    cases es with
    | nil =>
      cases ks with
      | nil => exact Or.inl ⟨by simp [Instr.findKey, run_underlying hd, Result.andThen, Instr.findNow], by simp⟩
      | cons z ks => simp at h
    | cons e es =>
      have hf : Instr.findNow d (enc x) (e :: es) 0 = none := by
        cases ks with
        | nil => simp at h
        | cons z ks => simp at h; simp [Instr.findNow, h.1, hn]
      rcases ask (e :: es) ks 0 h with ⟨g1, g2⟩ | ⟨j, e', g1, g2, g3⟩
      · exact Or.inl ⟨by simp [Instr.findKey, run_underlying hd, Result.andThen, hf, g1], g2⟩
      · exact Or.inr ⟨j, e', by simpa [Instr.findKey, run_underlying hd, Result.andThen, hf] using g1, g2, g3⟩

/-- a struct as a key: each of its fields may be one -/
theorem checkKey_struct {P : Program} {t : TypeId} {fs : Array Field} {cs : Array Value} {w : World} {em : Bool} {n : Nat} (hu : P.underlying t = some (.struct fs))
    (h : ∀ f ∈ fs.toList, f.name ≠ "_" → ∃ v, (part f.type cs f.offset).run P w = .ok v w ∧ (Instr.checkKey em n f.type v).run P w = .ok () w) : (Instr.checkKey em (n + 1) t (.agg cs)).run P w = .ok () w := by
  rw [Instr.checkKey]
  simp only [Sem.run_bind, run_underlying hu, Result.andThen_ok]
  rw [← Array.forIn_toList]
  revert h
  generalize fs.toList = l
  intro h
  induction l with
  | nil => simp
  | cons f l ih =>
    have ih := ih (fun f hf => h f (List.mem_cons_of_mem _ hf))
    simp only [List.forIn_cons, Sem.run_bind, Sem.run_ite]
    by_cases hn : f.name = "_"
    · simp [hn, Result.andThen]; simpa [Result.andThen] using ih
    · obtain ⟨v, h1, h2⟩ := h f (by simp) hn
      simp [hn, h1, h2, Result.andThen]; simpa [Result.andThen] using ih
section
variable {α β : Type}
/-- Block b is a map that holds m: keys and values, the elder first, each key once. -/
def MapIs (eK : α → Value) (eV : β → Value) (w : World) (b : Nat) (m : List (α × β)) : Prop :=
  ∃ (es : Array MapEntry) (clock : Nat), w.heap[b]? = some (.map es clock) ∧ es.toList.map (fun e => (e.key, e.val)) = m.map (fun p => (eK p.1, eV p.2)) ∧
    (∀ x ∈ es.toList, x.born < clock) ∧ (es.toList.map (·.born)).Nodup ∧ (m.map (·.1)).Nodup

def asc [DecidableEq α] : List (α × β) → α → Option β
  | [], _ => none
  | p :: m, x => if p.1 = x then some p.2 else asc m x
def putM [DecidableEq α] (m : List (α × β)) (x : α) (v : β) : List (α × β) :=
  if (asc m x).isSome then m.map (fun p => if p.1 = x then (p.1, v) else p) else m ++ [(x, v)]

variable {eK : α → Value} {eV : β → Value} {w w' : World} {b : Nat} {m : List (α × β)} {P : Program} {t kt et : TypeId}

theorem MapIs.move (h : MapIs eK eV w b m) (e : w'.heap[b]? = w.heap[b]?) : MapIs eK eV w' b m := by
  obtain ⟨es, c, h1, h2⟩ := h
  exact ⟨es, c, e.trans h1, h2⟩
theorem MapIs.lt (h : MapIs eK eV w b m) : b < w.heap.size := by
  obtain ⟨es, c, h1, _⟩ := h
  exact (Array.getElem?_eq_some_iff.1 h1).1
theorem MapIs.isMap (h : MapIs eK eV w b m) : ∃ es c, w.heap[b]? = some (.map es c) := by
  obtain ⟨es, c, h1, _⟩ := h
  exact ⟨es, c, h1⟩
theorem MapIs.nodup (h : MapIs eK eV w b m) : (m.map (·.1)).Nodup := by
  obtain ⟨es, c, _, _, _, _, h1⟩ := h
  exact h1
theorem MapIs.grown {row : Option Nat} (h : MapIs eK eV w b m) (g : w.grownBy w' row) (hr : some b ≠ row) : MapIs eK eV w' b m := h.move (g.block b h.lt hr)
theorem MapIs.below {B : Nat} (h : MapIs eK eV w b m) (g : Below B w w') (hb : b < B) : MapIs eK eV w' b m := h.move (g.block b hb)
theorem MapIs.made (eK : α → Value) (eV : β → Value) (w : World) : MapIs eK eV (w.alloc (.map #[] 0)) w.heap.size ([] : List (α × β)) :=
  ⟨#[], 0, (MapKept.heap_alloc w _).1, by simp, by simp, by simp, by simp⟩

theorem keys_of {es : Array MapEntry} (h : es.toList.map (fun e => (e.key, e.val)) = m.map (fun p => (eK p.1, eV p.2))) : es.toList.map (·.key) = (m.map (·.1)).map eK := by
  have := congrArg (List.map Prod.fst) h
  simpa [List.map_map, Function.comp_def] using this

variable [DecidableEq α]
theorem asc_none {m : List (α × β)} {x : α} : asc m x = none ↔ x ∉ m.map (·.1) := by
  induction m with
  | nil => simp [asc]
  | cons p m ih =>
    by_cases h : p.1 = x
    · simp [asc, h]
    · simp [asc, h, ih, Ne.symm h]
theorem asc_at {m : List (α × β)} (hn : (m.map (·.1)).Nodup) {j : Nat} {p : α × β} (h : m[j]? = some p) : asc m p.1 = some p.2 := by
  induction m generalizing j with
  | nil => simp at h
  | cons q m ih =>
    simp only [List.map_cons, List.nodup_cons] at hn
    cases j with
    | zero => simp at h; subst h; simp [asc]
    | succ j =>
      simp at h
      have hm : p.1 ∈ m.map (·.1) := List.mem_map_of_mem (List.mem_of_getElem? h)
      have : q.1 ≠ p.1 := fun e => hn.1 (e ▸ hm)
      simp [asc, this, ih hn.2 h]
theorem asc_mem {m : List (α × β)} {x : α} {v : β} (h : asc m x = some v) : (x, v) ∈ m := by
  induction m with
  | nil => simp [asc] at h
  | cons p m ih =>
    by_cases hp : p.1 = x
    · simp [asc, hp] at h; subst h; subst hp; simp
    · simp [asc, hp] at h; exact List.mem_cons_of_mem _ (ih h)
theorem asc_iff {m : List (α × β)} (hn : (m.map (·.1)).Nodup) {x : α} {v : β} : asc m x = some v ↔ (x, v) ∈ m := by
  constructor
  · exact asc_mem
  · intro h
    obtain ⟨j, hj⟩ := List.mem_iff_getElem?.1 h
    exact asc_at hn hj
theorem putM_keys {m : List (α × β)} {x y : α} {v : β} : y ∈ (putM m x v).map (·.1) ↔ y = x ∨ y ∈ m.map (·.1) := by
  unfold putM
  split
  · rename_i h
    have hx : x ∈ m.map (·.1) := by
      cases ha : asc m x with
      | none => rw [ha] at h; cases h
      | some v' => exact List.mem_map_of_mem (f := (·.1)) (asc_mem ha)
    have e : (m.map fun p => if p.1 = x then (p.1, v) else p).map (·.1) = m.map (·.1) := by
      rw [List.map_map]
      apply List.map_congr_left
      intro p _
      by_cases hp : p.1 = x <;> simp [hp]
    rw [e]
    constructor
    · exact Or.inr
    · rintro (rfl | h)
      · exact hx
      · exact h
  · simp [or_comm]
theorem putM_nodup {m : List (α × β)} {x : α} {v : β} (hn : (m.map (·.1)).Nodup) : ((putM m x v).map (·.1)).Nodup := by
  unfold putM
  split
  · have e : (m.map fun p => if p.1 = x then (p.1, v) else p).map (·.1) = m.map (·.1) := by
      rw [List.map_map]
      apply List.map_congr_left
      intro p _
      by_cases hp : p.1 = x <;> simp [hp]
    rw [e]; exact hn
  · rename_i h
    have : asc m x = none := by
      cases ha : asc m x with
      | none => rfl
      | some _ => rw [ha] at h; simp at h
    rw [List.map_append, List.nodup_append]
    refine ⟨hn, by simp, ?_⟩
    intro a ha b hb
    simp at hb
    subst hb
    rintro rfl
    exact asc_none.1 this ha
theorem asc_map {m : List (α × β)} {x y : α} {v : β} : asc (m.map fun p => if p.1 = x then (p.1, v) else p) y = if y = x then (asc m x).map (fun _ => v) else asc m y := by
  induction m with
  | nil => simp [asc]
  | cons p m ih =>
    simp only [List.map_cons, asc, ih]
    by_cases hp : p.1 = x
    · by_cases hy : y = x
      · simp [hp, hy]
      · have : ¬ x = y := fun e => hy e.symm
        simp [hp, hy, this]
    · by_cases hy : y = x
      · subst hy; simp [hp]
      · by_cases hq : p.1 = y <;> simp [hp, hy, hq]
theorem asc_append {m m' : List (α × β)} {y : α} : asc (m ++ m') y = (asc m y).or (asc m' y) := by
  induction m with
  | nil => simp [asc]
  | cons p m ih => by_cases h : p.1 = y <;> simp [asc, h, ih]
theorem asc_putM {m : List (α × β)} {x y : α} {v : β} : asc (putM m x v) y = if y = x then some v else asc m y := by
  unfold putM
  split
  · rename_i h
    rw [asc_map]
    cases ha : asc m x with
    | none => rw [ha] at h; cases h
    | some _ => rfl
  · rename_i h
    have hx : asc m x = none := by
      cases ha : asc m x with
      | none => rfl
      | some _ => rw [ha] at h; simp at h
    rw [asc_append]
    by_cases hy : y = x
    · subst hy; simp [hx, asc]
    · have : ¬ x = y := fun e => hy e.symm
      simp [asc, hy, this]
theorem putM_length {m : List (α × β)} {x : α} {v : β} : (putM m x v).length ≤ m.length + 1 := by
  unfold putM; split <;> simp

theorem MapIs.run_lookup (K : KeyB P kt eK) (ht : P.underlying t = some (.map kt et)) (h : MapIs eK eV w b m) (x : α) (z : Value) (hz : (zeroValue et).run P w = .ok z w) (ok : Bool) :
    (Instr.lookup t (.map (some b)) (eK x) ok).run P w = .ok (if ok then .tuple #[((asc m x).map eV).getD z, .bool (asc m x).isSome] else ((asc m x).map eV).getD z) w := by
  obtain ⟨es, c, hb, he, _, _, hn⟩ := h
  rcases K.find w x es.toList (m.map (·.1)) (keys_of he) with ⟨h1, h2⟩ | ⟨j, e, h1, h2, h3⟩
  · have ha : asc m x = none := asc_none.2 h2
    simp [Instr.lookup, Sem.run_bind, run_underlying ht, MapKept.run_getObj_map hb, K.check, h1, hz, Result.andThen, ha]
  · rw [List.getElem?_map] at h3
    cases hm : m[j]? with
    | none => rw [hm] at h3; cases h3
    | some p =>
      rw [hm] at h3
      simp at h3
      have ha := asc_at hn hm
      have hv : e.val = eV p.2 := by
        have := congrArg (fun l => l[j]?) he
        simp only [List.getElem?_map, h2, hm, Option.map_some, Option.some.injEq, Prod.mk.injEq] at this
        exact this.2
      rw [h3] at ha
      simp [Instr.lookup, Sem.run_bind, run_underlying ht, MapKept.run_getObj_map hb, K.check, h1, Result.andThen, ha, hv]

theorem MapIs.run_update (K : KeyB P kt eK) (ht : P.underlying t = some (.map kt et)) (h : MapIs eK eV w b m) (x : α) (v : β) :
    ∃ w', (Instr.mapUpdate t (.map (some b)) (eK x) (eV v)).run P w = .ok () w' ∧ MapIs eK eV w' b (putM m x v) ∧ w.grownBy w' (some b) ∧ w'.heap.size = w.heap.size := by
  obtain ⟨es, c, hb, he, h1', h2', hn⟩ := h
  have gr : ∀ o : Obj, w.grownBy { w with heap := w.heap.setIfInBounds b o } (some b) := fun o =>
    ⟨rfl, rfl, rfl, by simp, fun i _ hi => (heap_set hb).2 i (fun e => hi (by rw [e]))⟩
  rcases K.find w x es.toList (m.map (·.1)) (keys_of he) with ⟨h1, h2⟩ | ⟨j, e, h1, h2, h3⟩
  · have ha : asc m x = none := asc_none.2 h2
    refine ⟨{ w with heap := w.heap.setIfInBounds b (.map (es.push { key := eK x, val := eV v, born := c }) (c + 1)) }, ?_, ?_, gr _, by simp⟩
    · simp [Instr.mapUpdate, Sem.run_bind, run_underlying ht, MapKept.run_getObj_map hb, K.check, h1, Result.andThen, MapKept.run_setObj_map _ hb]
    · refine ⟨_, _, (heap_set hb).1, ?_, ?_, ?_, putM_nodup hn⟩
      · simp [putM, ha, he]
      · intro y hy
        simp at hy
        rcases hy with hy | rfl
        · have := h1' y (by simpa using hy); omega
        · simp
      · simp only [Array.toList_push, List.map_append, List.map_cons, List.map_nil]
        rw [List.nodup_append]
        refine ⟨h2', by simp, ?_⟩
        intro a ha' b' hb'
        simp at hb'
        subst hb'
        obtain ⟨y, hy, rfl⟩ := List.mem_map.1 ha'
        have := h1' y hy
        omega
  · have hj : es[j]? = some e := by simpa using h2
    rw [List.getElem?_map] at h3
    cases hm : m[j]? with
    | none => rw [hm] at h3; cases h3
    | some p =>
      rw [hm] at h3
      simp at h3
      have ha := asc_at hn hm
      rw [h3] at ha
      have hk : e.key = eK x := by
        have := congrArg (fun l => l[j]?) he
        simp only [List.getElem?_map, h2, hm, Option.map_some, Option.some.injEq, Prod.mk.injEq] at this
        rw [this.1, h3]
      refine ⟨{ w with heap := w.heap.setIfInBounds b (.map (es.modify j fun e => { e with key := eK x, val := eV v }) c) }, ?_, ?_, gr _, by simp⟩
      · simp [Instr.mapUpdate, Sem.run_bind, run_underlying ht, MapKept.run_getObj_map hb, K.check, h1, hj, hk, K.stays, Result.andThen, MapKept.run_setObj_map _ hb]
      · have em : (es.modify j fun e => { e with key := eK x, val := eV v }).toList = es.toList.modify j (fun e => { e with key := eK x, val := eV v }) := by simp
        refine ⟨_, _, (heap_set hb).1, ?_, ?_, ?_, putM_nodup hn⟩
        · rw [em]
          apply List.ext_getElem?
          intro i
          have hi := congrArg (fun l => l[i]?) he
          simp only [List.getElem?_map] at hi
          simp only [putM, ha, Option.isSome_some, if_true, List.getElem?_map, List.getElem?_modify]
          by_cases hij : j = i
          · subst hij
            rw [h2, hm]
            simp [h3]
          · cases hmi : m[i]? with
            | none => simp [hmi] at hi; simp [hi, hij]
            | some q =>
              have hq : q.1 ≠ x := by
                intro e2
                have g1 : (m.map (·.1))[i]? = some x := by rw [List.getElem?_map, hmi]; simp [e2]
                have g2 : (m.map (·.1))[j]? = some x := by rw [List.getElem?_map, hm]; simp [h3]
                have lt : i < (m.map (·.1)).length := (List.getElem?_eq_some_iff.1 g1).1
                exact hij (((List.getElem?_inj lt hn).1 (g1.trans g2.symm)).symm)
              rw [hmi] at hi
              simp [hij, hq]
              simpa using hi
        · intro y hy
          rw [em] at hy
          obtain ⟨i, hi⟩ := List.mem_iff_getElem?.1 hy
          rw [List.getElem?_modify] at hi
          cases hei : es.toList[i]? with
          | none => rw [hei] at hi; simp at hi
          | some e' =>
            rw [hei] at hi
            have hb' := h1' e' (List.mem_of_getElem? hei)
            by_cases hij : j = i
            · simp [hij] at hi; rw [← hi]; exact hb'
            · simp [hij] at hi; rw [← hi]; exact hb'
        · rw [em]
          have : (es.toList.modify j (fun e => { e with key := eK x, val := eV v })).map (·.born) = es.toList.map (·.born) := by
            apply List.ext_getElem?
            intro i
            simp only [List.getElem?_map, List.getElem?_modify]
            cases es.toList[i]? with
            | none => simp
            | some e' => by_cases hij : j = i <;> simp [hij]
          rw [this]; exact h2'
end

section
variable {α β : Type} {eK : α → Value} {eV : β → Value} {w w' : World} {b r : Nat} {m left : List (α × β)} {P : Program} {t kt et : TypeId}
/-- Block r is a range over the map b that holds m; left: what is still to come. -/
def IterIs (eK : α → Value) (eV : β → Value) (w : World) (r b : Nat) (m left : List (α × β)) : Prop :=
  ∃ (es : Array MapEntry) (clock : Nat) (seen : Array Nat), w.heap[b]? = some (.map es clock) ∧ w.heap[r]? = some (.mapIter (some b) clock seen clock) ∧
    es.toList.map (fun e => (e.key, e.val)) = m.map (fun p => (eK p.1, eV p.2)) ∧ (∀ x ∈ es.toList, x.born < clock) ∧ (es.toList.map (·.born)).Nodup ∧
    (leftOf es seen).toList.map (fun e => (e.key, e.val)) = left.map (fun p => (eK p.1, eV p.2))
theorem IterIs.move (h : IterIs eK eV w r b m left) (e : w'.heap[b]? = w.heap[b]?) (e' : w'.heap[r]? = w.heap[r]?) : IterIs eK eV w' r b m left := by
  obtain ⟨es, c, seen, h1, h2, h3⟩ := h
  exact ⟨es, c, seen, e.trans h1, e'.trans h2, h3⟩
theorem IterIs.lt (h : IterIs eK eV w r b m left) : b < w.heap.size ∧ r < w.heap.size := by
  obtain ⟨es, c, seen, h1, h2, _⟩ := h
  exact ⟨(Array.getElem?_eq_some_iff.1 h1).1, (Array.getElem?_eq_some_iff.1 h2).1⟩
/-- no block of cells -/
def NoCells (w : World) (k : Nat) : Prop := ∀ c t f, w.heap[k]? ≠ some (.cells c t f)
theorem IterIs.nc (h : IterIs eK eV w r b m left) : NoCells w r := by
  obtain ⟨es, c, seen, h1, h2, _⟩ := h
  intro c t f h
  rw [h2] at h; cases h
theorem MapIs.nc (h : MapIs eK eV w b m) : NoCells w b := by
  obtain ⟨es, c, h1, _⟩ := h
  intro c t f h
  rw [h1] at h; cases h
theorem IterIs.ne (h : IterIs eK eV w r b m left) : r ≠ b := by
  obtain ⟨es, c, seen, h1, h2, _⟩ := h
  rintro rfl
  rw [h1] at h2
  cases h2
theorem IterIs.grown {row : Option Nat} (h : IterIs eK eV w r b m left) (g : w.grownBy w' row) (hr : some b ≠ row) (hr' : some r ≠ row) : IterIs eK eV w' r b m left := h.move (g.block b h.lt.1 hr) (g.block r h.lt.2 hr')

variable {ops : Array Oper} {rest : List Oper} {o : Oper} {a : Act} {Q : Exit → Act → World → Prop}
theorem wp_range (hg : o.guard = none) (x : Operand) (t : TypeId) (hop : o.op = Op.range t x) (kt et : TypeId) (ht : P.underlying t = some (.map kt et)) (b : Nat) (hm : a.eval x = .map (some b)) (h : MapIs eK eV w b m) (r : Nat) (hr : w.heap.size = r)
    (hK : ∀ w', IterIs eK eV w' r b m m → w.grownBy w' none → wpList P ops Q rest (a.put o.dst (.pointer (some ⟨r, 0, none⟩))) w') :
    wpList P ops Q (o :: rest) a w := by
  subst hr
  refine wpList_plain hg fun K' hK' => ?_
  obtain ⟨es, c, hb, he, h1, h2, hn⟩ := h
  unfold Oper.wp
  have hrun : (Instr.range t (.map (some b))).run P w = .ok (.pointer (some ⟨w.heap.size, 0, none⟩)) (w.alloc (.mapIter (some b) c #[] c)) := by
    simp [Instr.range, Sem.run_bind, run_underlying ht, MapKept.run_getObj_map hb, Result.andThen]
  simp [execOp, hop, hm, hrun, Result.andThen]
  refine hK' _ _ (hK _ ⟨es, c, #[], ((MapKept.heap_alloc w _).2 b (Array.getElem?_eq_some_iff.1 hb).1).trans hb, (MapKept.heap_alloc w _).1, he, h1, h2, ?_⟩ ⟨rfl, rfl, rfl, by simp, fun k hk _ => (MapKept.heap_alloc w _).2 k hk⟩)
  unfold leftOf
  have hf : es.toList.filter (fun e => true) = es.toList := List.filter_eq_self.2 (fun _ _ => rfl)
  simp [hf, he]

theorem filter_erase {e : MapEntry} : ∀ (L : List MapEntry) (i : Nat), (L.map (·.born)).Nodup → L[i]? = some e → L.filter (fun x => !(x.born == e.born)) = L.eraseIdx i
  | [], i, _, h => by simp at h
  | x :: L, 0, hn, h => by
    simp at h
    subst h
    simp only [List.map_cons, List.nodup_cons] at hn
    have : L.filter (fun y => !(y.born == x.born)) = L := List.filter_eq_self.2 (fun y hy => by
      have : y.born ≠ x.born := fun e => hn.1 (e ▸ List.mem_map_of_mem hy)
      simp [this])
    simp [this]
  | x :: L, i + 1, hn, h => by
    simp only [List.map_cons, List.nodup_cons] at hn
    simp at h
    have : x.born ≠ e.born := fun q => hn.1 (q ▸ List.mem_map_of_mem (List.mem_of_getElem? h))
    simp [this, filter_erase L i hn.2 h]

theorem perm_erase {γ : Type} : ∀ (l : List γ) (i : Nat) (p : γ), l[i]? = some p → l.Perm (p :: l.eraseIdx i)
  | [], i, p, h => by simp at h
  | x :: l, 0, p, h => by simp at h; subst h; simp
  | x :: l, i + 1, p, h => by
    simp at h
    exact ((perm_erase l i p h).cons x).trans (List.Perm.swap p x _)

theorem wp_next (hg : o.guard = none) (it : Operand) (hop : o.op = Op.next it false) (r : Nat) (hit : a.eval it = .pointer (some ⟨r, 0, none⟩)) (h : IterIs eK eV w r b m left)
    (hDone : left = [] → wpList P ops Q rest (a.put o.dst (.tuple #[.bool false])) w)
    (hMore : ∀ (p : α × β) (left' : List (α × β)) (w' : World), left.Perm (p :: left') → IterIs eK eV w' r b m left' → w.grownBy w' (some r) →
      (Instr.entry (.pointer (some ⟨r, 0, none⟩))).run P w' = .ok (.tuple #[eK p.1, eV p.2]) w' → wpList P ops Q rest (a.put o.dst (.tuple #[.bool true, eK p.1, eV p.2])) w') :
    wpList P ops Q (o :: rest) a w := by
  refine wpList_plain hg fun K' hK' => ?_
  obtain ⟨es, c, seen, hb, hr, he, h1, h2, hl⟩ := h
  unfold Oper.wp
  rcases run_next_at (P := P) w o.type r b c c seen es c hr hb h1 (Nat.le_refl _) with ⟨h0, hrun⟩ | ⟨e, hmem, w1, hw1, hrun⟩
  · have : left = [] := by
      have h3 : (leftOf es seen).toList = [] := by simpa using Array.eq_empty_of_size_eq_zero h0
      rw [h3] at hl
      simpa using hl.symm
    simp [execOp, hop, hit, hrun, Result.andThen]
    exact hK' _ _ (hDone this)
  · obtain ⟨i, hi⟩ := List.mem_iff_getElem?.1 hmem
    have hpi := congrArg (fun l => l[i]?) hl
    simp only [List.getElem?_map, hi, Option.map_some] at hpi
    cases hli : left[i]? with
    | none => rw [hli] at hpi; cases hpi
    | some p =>
      rw [hli] at hpi
      simp only [Option.map_some, Option.some.injEq, Prod.mk.injEq] at hpi
      have hr1 : w1.heap[r]? = some (.mapIter (some b) c seen c) := by rcases hw1 with rfl | rfl <;> exact hr
      have hb1 : w1.heap[b]? = some (.map es c) := by rcases hw1 with rfl | rfl <;> exact hb
      have hrb : b ≠ r := by rintro rfl; rw [hb] at hr; cases hr
      have hb2 : (setBlock w1 r (.mapIter (some b) c (seen.push e.born) c)).heap[b]? = some (.map es c) := ((heap_set hr1).2 b hrb).trans hb1
      have hr2 : (setBlock w1 r (.mapIter (some b) c (seen.push e.born) c)).heap[r]? = some (.mapIter (some b) c (seen.push e.born) c) := (heap_set hr1).1
      have hee : e ∈ es.toList := by
        unfold leftOf at hmem
        simp at hmem ⊢
        exact hmem.1
      have hent := run_entry_at (P := P) _ r b c seen es c e hr2 hb2 hee h2
      have heq : (Value.tuple #[.bool true, e.key, e.val]) = .tuple #[.bool true, eK p.1, eV p.2] := by rw [hpi.1, hpi.2]
      have lo : (leftOf es (seen.push e.born)).toList = (leftOf es seen).toList.eraseIdx i := by
        unfold leftOf at hi ⊢
        simp only [Array.toList_filter] at hi ⊢
        have hnd : ((es.toList.filter fun x => !seen.contains x.born).map (·.born)).Nodup := (List.filter_sublist.map _).nodup h2
        have g : (es.toList.filter fun x => !(seen.push e.born).contains x.born) = (es.toList.filter fun x => !seen.contains x.born).filter fun x => !(x.born == e.born) := by
          rw [List.filter_filter]
          apply List.filter_congr
          intro x _
          by_cases hx : x.born = e.born <;> simp [hx]
        rw [g]
        exact filter_erase _ i hnd hi
      simp [execOp, hop, hit, hrun, Result.andThen]
      have hK2 := hMore p (left.eraseIdx i) (setBlock w1 r (.mapIter (some b) c (seen.push e.born) c)) (perm_erase left i p hli)
        ⟨es, c, seen.push e.born, hb2, hr2, he, h1, h2, by rw [lo, Go.ChangeMaps.map_eraseIdx, hl, ← Go.ChangeMaps.map_eraseIdx]⟩
        (by rcases hw1 with rfl | rfl <;> exact ⟨rfl, rfl, rfl, by simp [setBlock], fun k _ hk => (heap_set hr1).2 k (fun e => hk (by rw [e]))⟩)
        (by rw [hent, hpi.1, hpi.2])
      rw [hpi.1, hpi.2]
      exact hK' _ _ hK2

/-- a look-up, whatever is found -/
theorem wp_lookup [DecidableEq α] (hg : o.guard = none) (x y : Operand) (t : TypeId) (hop : o.op = Op.lookup t x y false) (kt et : TypeId) (ht : P.underlying t = some (.map kt et)) (K : KeyB P kt eK) (b : Nat) (hm : a.eval x = .map (some b))
    (h : MapIs eK eV w b m) (k : α) (hk : a.eval y = eK k) (z : Value) (hz : (zeroValue et).run P w = .ok z w) (hK : wpList P ops Q rest (a.put o.dst (((asc m k).map eV).getD z)) w) :
    wpList P ops Q (o :: rest) a w := by
  refine wpList_plain hg fun K' hK' => ?_
  unfold Oper.wp
  simp [execOp, hop, hm, hk, h.run_lookup K ht k z hz false, Result.andThen]
  exact hK' _ _ hK
theorem wp_lookup_ok [DecidableEq α] (hg : o.guard = none) (x y : Operand) (t : TypeId) (hop : o.op = Op.lookup t x y true) (kt et : TypeId) (ht : P.underlying t = some (.map kt et)) (K : KeyB P kt eK) (b : Nat) (hm : a.eval x = .map (some b))
    (h : MapIs eK eV w b m) (k : α) (hk : a.eval y = eK k) (z : Value) (hz : (zeroValue et).run P w = .ok z w) (hK : wpList P ops Q rest (a.put o.dst (.tuple #[((asc m k).map eV).getD z, .bool (asc m k).isSome])) w) :
    wpList P ops Q (o :: rest) a w := by
  refine wpList_plain hg fun K' hK' => ?_
  unfold Oper.wp
  simp [execOp, hop, hm, hk, h.run_lookup K ht k z hz true, Result.andThen]
  exact hK' _ _ hK
theorem wp_update [DecidableEq α] (hg : o.guard = none) (x y u : Operand) (t : TypeId) (hop : o.op = Op.mapUpdate t x y u) (kt et : TypeId) (ht : P.underlying t = some (.map kt et)) (K : KeyB P kt eK) (b : Nat) (hm : a.eval x = .map (some b))
    (h : MapIs eK eV w b m) (k : α) (hk : a.eval y = eK k) (v : β) (hv : a.eval u = eV v)
    (hK : ∀ w', MapIs eK eV w' b (putM m k v) → w.grownBy w' (some b) → wpList P ops Q rest (a.put o.dst undef) w') :
    wpList P ops Q (o :: rest) a w := by
  refine wpList_plain hg fun K' hK' => ?_
  obtain ⟨w', hrun, h1, h2, h3⟩ := h.run_update K ht k v
  unfold Oper.wp
  simp [execOp, hop, hm, hk, hv, hrun, Result.andThen]
  exact hK' _ _ (hK w' h1 h2)
theorem step_update [DecidableEq α] {Kc : Act → World → Prop} (hw : Region.wanted o (yielded ops a.tmps) = true) (x y u : Operand) (t : TypeId) (hop : o.op = Op.mapUpdate t x y u) (kt et : TypeId) (ht : P.underlying t = some (.map kt et)) (K : KeyB P kt eK) (b : Nat) (hm : a.eval x = .map (some b))
    (h : MapIs eK eV w b m) (k : α) (hk : a.eval y = eK k) (v : β) (hv : a.eval u = eV v)
    (hK : ∀ w', MapIs eK eV w' b (putM m k v) → w.grownBy w' (some b) → Kc (a.put o.dst undef) w') :
    if Region.wanted o (yielded ops a.tmps) = true then Oper.wp P o a w Kc Q else Kc (a.put o.dst undef) w := by
  rw [if_pos hw]
  obtain ⟨w', hrun, h1, h2, h3⟩ := h.run_update K ht k v
  unfold Oper.wp
  simp [execOp, hop, hm, hk, hv, hrun, Result.andThen]
  exact hK w' h1 h2
/-- any operation that runs -/
theorem step_run {Kc : Act → World → Prop} {W w1 : World} {v : Value} (hw : Region.wanted o (yielded ops a.tmps) = true) (hrun : (execOp a.eval o).run P W = .ok (.value v) w1) (h : Kc (a.put o.dst v) w1) :
    if Region.wanted o (yielded ops a.tmps) = true then Oper.wp P o a W Kc Q else Kc (a.put o.dst undef) W := by
  rw [if_pos hw]
  unfold Oper.wp
  rw [hrun]
  exact h
theorem step_skip {Kc : Act → World → Prop} {W w1 : World} (hw : Region.wanted o (yielded ops a.tmps) = true) (hN : o.dst = none) (hrun : (execOp a.eval o).run P W = .ok .skip w1) (h : Kc a w1) :
    if Region.wanted o (yielded ops a.tmps) = true then Oper.wp P o a W Kc Q else Kc (a.put o.dst undef) W := by
  rw [if_pos hw]
  unfold Oper.wp
  rw [hrun]
  show Kc (a.put o.dst undef) w1
  rw [hN]
  exact h
end

section
variable {a b c : World} {row : Option Nat} {B : Nat}
theorem nes {a b : Nat} (h : a ≠ b) : some a ≠ some b := fun e => h (Option.some.inj e)
theorem nen {a : Nat} : some a ≠ none := fun e => by cases e
theorem gb_cell {ad : Addr} {v : Value} (g : a.grownBy b row) (h : a.cell? ad = some v) (hr : some ad.block ≠ row) : b.cell? ad = some v := (World.cell?_of_block (g.block ad.block (World.block_lt_of_cell? a _ h) hr)).trans h
theorem gb_refl (a : World) (row : Option Nat) : a.grownBy a row := ⟨rfl, rfl, rfl, Nat.le_refl _, fun _ _ _ => rfl⟩
theorem gb_trans (h : a.grownBy b row) (k : b.grownBy c row) : a.grownBy c row :=
  ⟨k.os.trans h.os, k.tape.trans h.tape, k.output.trans h.output, Nat.le_trans h.size k.size, fun i hi hr => (k.block i (Nat.lt_of_lt_of_le hi h.size) hr).trans (h.block i hi hr)⟩
theorem gb_none (h : a.grownBy b none) (row : Option Nat) : a.grownBy b row := ⟨h.os, h.tape, h.output, h.size, fun i hi _ => h.block i hi (by simp)⟩
/-- what was written is new -/
theorem gb_new {k : Nat} (h : a.grownBy b row) (g : b.grownBy c (some k)) (hk : a.heap.size ≤ k) : a.grownBy c row :=
  ⟨g.os.trans h.os, g.tape.trans h.tape, g.output.trans h.output, Nat.le_trans h.size g.size, fun i hi hr => (g.block i (Nat.lt_of_lt_of_le hi h.size) (by rintro ⟨rfl⟩; omega)).trans (h.block i hi hr)⟩
theorem gb_alloc (h : a.grownBy b row) (o : Obj) : a.grownBy (b.alloc o) row :=
  ⟨h.os, h.tape, h.output, Nat.le_trans h.size (by show _ ≤ (b.heap.push o).size; simp), fun i hi hr => ((MapKept.heap_alloc b o).2 i (Nat.lt_of_lt_of_le hi h.size)).trans (h.block i hi hr)⟩
theorem gb_drew (h : a.grownBy b row) : a.grownBy b.drew row := ⟨h.os, h.tape, h.output, h.size, h.block⟩
theorem gb_drewN (h : a.grownBy b row) (n : Nat) : a.grownBy (b.drewN n) row := ⟨h.os, h.tape, h.output, h.size, h.block⟩
theorem gb_below0 (h : a.grownBy b none) : Below a.heap.size a b := ⟨h.os, h.tape, h.output, h.size, fun k hk => h.block k hk (by simp)⟩
theorem below_gb {w0 : World} (h : Below w0.heap.size w0 a) (g : a.grownBy b row) (hr : ∀ k, row = some k → w0.heap.size ≤ k) : Below w0.heap.size w0 b := h.grown g h.size hr
theorem size_alloc (w : World) (o : Obj) : (w.alloc o).heap.size = w.heap.size + 1 := by show (w.heap.push o).size = _; simp
theorem blk_newAt {w : World} {n : Nat} (o : Obj) (h : n = w.heap.size) : (w.alloc o).heap[n]? = some o := by subst h; exact (MapKept.heap_alloc w o).1
theorem blk_old {w : World} {n : Nat} {o : Obj} (h : w.heap[n]? = some o) (o' : Obj) : (w.alloc o').heap[n]? = some o := ((MapKept.heap_alloc w o').2 n (Array.getElem?_eq_some_iff.1 h).1).trans h
theorem MapIs.alloc {α β : Type} {eK : α → Value} {eV : β → Value} {w : World} {b : Nat} {m : List (α × β)} (h : MapIs eK eV w b m) (o : Obj) : MapIs eK eV (w.alloc o) b m := h.move ((MapKept.heap_alloc w o).2 b h.lt)
theorem IterIs.alloc {α β : Type} {eK : α → Value} {eV : β → Value} {w : World} {r b : Nat} {m left : List (α × β)} (h : IterIs eK eV w r b m left) (o : Obj) : IterIs eK eV (w.alloc o) r b m left :=
  h.move ((MapKept.heap_alloc w o).2 b h.lt.1) ((MapKept.heap_alloc w o).2 r h.lt.2)
theorem MapIs.madeAt {α β : Type} (eK : α → Value) (eV : β → Value) {w : World} {n : Nat} (h : n = w.heap.size) : MapIs eK eV (w.alloc (.map #[] 0)) n ([] : List (α × β)) := by subst h; exact MapIs.made eK eV w
end
theorem take_next {α : Type} (d : α) (l : List α) (i : Int) (h0 : 0 ≤ i) (h : i < l.length) : l.take (i + 1).toNat = l.take i.toNat ++ [l.getD i.toNat d] := by
  rw [show (i + 1).toNat = i.toNat + 1 by omega, List.take_succ_eq_append_getElem (by omega)]
  simp [List.getD, List.getElem?_eq_getElem (show i.toNat < l.length by omega)]
theorem drop_next {α : Type} (d : α) (l : List α) (i : Int) (h0 : 0 ≤ i) (h : i < l.length) : l.drop i.toNat = l.getD i.toNat d :: l.drop (i + 1).toNat := by
  rw [show (i + 1).toNat = i.toNat + 1 by omega, List.drop_eq_getElem_cons (show i.toNat < l.length by omega)]
  simp [List.getD, List.getElem?_eq_getElem (show i.toNat < l.length by omega)]
end Go.Proofs.Ytjkhdldgmkkhjaa.M
