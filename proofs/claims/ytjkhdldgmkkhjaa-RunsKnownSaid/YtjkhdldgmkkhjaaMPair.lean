/- Keys of a map that are pairs of numbers. -/
import Derived.Test.YtjkhdldgmkkhjaaMMap
import Derived.Test.YtjkhdldgmkkhjaaProg
import Derived.Test.YtjkhdldgmkkhjaaWEqStruct
set_option linter.unusedVariables false
set_option linter.unusedSimpArgs false
set_option linter.unnecessarySimpa false
namespace Go.Proofs.Ytjkhdldgmkkhjaa.M
open Go.RowKit Go.MapKept Go.Proofs.YtjkhdldgmkkhjaaW.PrintWords
def ePair (p : Int × Int) : Value := .agg #[.int .i64 p.1, .int .i64 p.2]
def eOne (x : Int) : Value := .int .i64 x
theorem keyPair : KeyB Try.prog 78 ePair :=
  keyB_asked (d := .struct (Try.prog.fieldsOf 78)) (by kernel_rfl)
    (fun {x y} h => by
      obtain ⟨a, b⟩ := x
      obtain ⟨c, d⟩ := y
      simp only [ePair, Value.agg.injEq, List.toArray_inj, Array.mk.injEq, List.cons.injEq, Value.int.injEq, true_and, and_true] at h
      rw [h.1, h.2])
    (fun _ _ => rfl)
    (fun w em x => checkKey_struct Try.underlying78 (by
      intro f hf _
      simp only [List.mem_cons, List.not_mem_nil, or_false] at hf
      rcases hf with rfl | rfl
      · exact ⟨.int .i64 x.1, by go_simp, run_checkKey Try.underlying3 (by simp [IsKey]) em _⟩
      · exact ⟨.int .i64 x.2, by go_simp, run_checkKey Try.underlying3 (by simp [IsKey]) em _⟩))
    (fun w x y => by
      have h := eqA_of (P := Try.prog) (d := 9999) (w := w) (xs := #[.int .i64 x.1, .int .i64 x.2]) (ys := #[.int .i64 y.1, .int .i64 y.2]) Try.underlying78 (by kernel_rfl)
        (eqf_cons (by rfl) (by go_simp; rfl) (by go_simp; rfl) (by go_simp; rfl) (eqf_last (by rfl) (by go_simp; rfl) (by go_simp; rfl) (by go_simp; rfl)))
      have e : decide (x = y) = (x.1 == y.1 && x.2 == y.2) := by
        obtain ⟨a, b⟩ := x
        obtain ⟨c, d⟩ := y
        by_cases h1 : a = c <;> by_cases h2 : b = d <;> simp [h1, h2]
      rw [e]
      simpa [Op.equal, Op.maxDepth, ePair] using h)
    (fun x => by
      obtain ⟨a, b⟩ := x
      simp [Instr.sameBits, ePair])
end Go.Proofs.Ytjkhdldgmkkhjaa.M
