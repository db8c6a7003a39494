/- SetsPacks's plain law: two numbers packed, and back. -/
import Derived.Test.YtmkpfamngedcmaaPCanopylaw2SetsPacks
import Derived.Laws.Bits64b
set_option linter.unusedVariables false
set_option linter.unusedSimpArgs false
namespace Go.Proofs.Ytmkpfamngedcmaa.Pure
open Go.RowKit Go.Proofs.Ytmkpfamngedcmaa.P Go.Proofs.YtmkpfamngedcmaaW.PrintWords Go.Proofs.YtmkpfamngedcmaaW.PrintLast Go.Proofs.YtmkpfamngedcmaaW.PrintMore

theorem or_apart (a b : Int) : Go.bits .or .u64 ((a % 4294967296) * 4294967296) (b % 4294967296) = (a % 4294967296) * 4294967296 + b % 4294967296 := by
  have ha := Int.emod_nonneg a (show (4294967296 : Int) ≠ 0 by omega)
  have ha' := Int.emod_lt_of_pos a (show (0 : Int) < 4294967296 by omega)
  have hb := Int.emod_nonneg b (show (4294967296 : Int) ≠ 0 by omega)
  have hb' := Int.emod_lt_of_pos b (show (0 : Int) < 4294967296 by omega)
  generalize a % 4294967296 = x at *
  generalize b % 4294967296 = y at *
  obtain ⟨m, rfl⟩ := Int.eq_ofNat_of_zero_le ha
  obtain ⟨n, rfl⟩ := Int.eq_ofNat_of_zero_le hb
  have h := bits_or_u64_nat (2 ^ 32 * m) n (by omega) (by omega)
  rw [← Nat.two_pow_add_eq_or_of_lt (by omega)] at h
  have e : ((2 ^ 32 * m : Nat) : Int) = (m : Int) * 4294967296 := by omega
  rw [e] at h
  rw [h]
  omega
theorem pack_f (a b : Int) : sets_Pack.f a b = some ((a % 4294967296) * 4294967296 + b % 4294967296) := by unfold sets_Pack.f; rw [or_apart]
theorem rpack_f (a b : Int) : canopyref2_Pack.f a b = some ((a % 4294967296) * 4294967296 + b % 4294967296) := by unfold canopyref2_Pack.f; rw [or_apart]
theorem bind_step {α β : Type} {a : Option α} {x : α} {f : α → Option β} {r : Option β} (h : a = some x) (k : f x = r) : a.bind f = r := by rw [h]; exact k
theorem u64_wrap (a : Int) : IntKind.u64.wrap a = a % 18446744073709551616 := by
  simp only [IntKind.wrap, IntKind.signed, IntKind.bits]
  simp
/-- YOURS -/
theorem SetsPacks : canopylaw2_SetsPacks.Pure := by
  intro a b x y wa wb wx wy
  unfold canopylaw2_SetsPacks.f
  refine bind_step (show canopylaw2_known.f = some true from rfl) ?_
  refine (if_pos rfl).trans ?_
  refine bind_step (pack_f _ _) ?_
  refine bind_step (x := _) rfl ?_
  refine bind_step (x := _) rfl ?_
  refine bind_step (x := _) rfl ?_
  refine bind_step (pack_f _ _) ?_
  refine bind_step (rpack_f _ _) ?_
  have p : ∀ x : Int, wrap64 (wrap32 x) = wrap32 x := fun x => by unfold wrap64 wrap32; omega
  rw [u64_wrap]
  simp only [p]
  rw [if_pos trivial, if_pos (by unfold wrap32; omega), if_pos (by unfold wrap32; omega), if_pos trivial, if_pos trivial, pack_f]
  show some _ = some true
  congr 1
  rw [beq_iff_eq]
  unfold wrap32
  omega
end Go.Proofs.Ytmkpfamngedcmaa.Pure
