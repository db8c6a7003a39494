/- Words and walks of this claim: MAuto. -/
import Derived.Test.YtejpijgfpbcibaaGreatQSMake
import Derived.Test.YtejpijgfpbcibaaGreatQSCheck
set_option linter.unusedVariables false
set_option linter.unusedSimpArgs false
set_option linter.unnecessarySimpa false
namespace Go.Proofs.YtejpijgfpbcibaaGreat.P
open Go.RowKit Go.Proofs.YtejpijgfpbcibaaGreatW.PrintWords Go.Proofs.YtejpijgfpbcibaaGreatW.PrintLast Go.Proofs.YtejpijgfpbcibaaGreatW.PrintMore Go.Proofs.YtejpijgfpbcibaaGreat.M
section
variable {w w' wO : World} {go B : Nat} {N G v2 v3 v4 v5 v6 x : Value} {r2 r3 : List Int} {r4 : List TOpen} {r5 : List TClose} {r6 : List TInner}
theorem OutR.of_V (h : OutV w wO.heap.size v2 v3 v4 v5 v6 r2 r3 r4 r5 r6) (hb : Below wO.heap.size wO w) (N G : Value) : OutR (w.alloc (.cells #[N, G, v2, v3, v4, v5, v6] 30)) wO w.heap.size N G v2 v3 v4 v5 v6 r2 r3 r4 r5 r6 :=
 ⟨below_alloc hb _, hb.size, blk_newAt _ rfl, Kd.R_alloc h.r2 _, Kd.R_alloc h.r3 _, Kd.R_alloc h.r4 _, Kd.R_alloc h.r5 _, Kd.R_alloc h.r6 _, h.ne⟩
theorem OutR.far (h : OutR w wO go N G v2 v3 v4 v5 v6 r2 r3 r4 r5 r6) (q : Nat) (u : Value) : Kd.R (Kd.int .i64) 3 (w.setCell ⟨go, q, none⟩ u) wO.heap.size (fun k => some k = v2.ownBlock) v2 r2 ∧ Kd.R (Kd.int .i64) 3 (w.setCell ⟨go, q, none⟩ u) wO.heap.size (fun k => some k = v3.ownBlock) v3 r3 ∧ Kd.R k36 36 (w.setCell ⟨go, q, none⟩ u) wO.heap.size (fun k => some k = v4.ownBlock) v4 r4 ∧ Kd.R k38 38 (w.setCell ⟨go, q, none⟩ u) wO.heap.size (fun k => some k = v5.ownBlock) v5 r5 ∧ Kd.R k40 40 (w.setCell ⟨go, q, none⟩ u) wO.heap.size (fun k => some k = v6.ownBlock) v6 r6 :=
 ⟨Kd.R_far h.r2 (fun k hk e => Kd.R_ne h.r2 h.t (by decide) (by rw [← hk]; exact congrArg some e.symm)) _, Kd.R_far h.r3 (fun k hk e => Kd.R_ne h.r3 h.t (by decide) (by rw [← hk]; exact congrArg some e.symm)) _, Kd.R_far h.r4 (fun k hk e => Kd.R_ne h.r4 h.t (by decide) (by rw [← hk]; exact congrArg some e.symm)) _, Kd.R_far h.r5 (fun k hk e => Kd.R_ne h.r5 h.t (by decide) (by rw [← hk]; exact congrArg some e.symm)) _, Kd.R_far h.r6 (fun k hk e => Kd.R_ne h.r6 h.t (by decide) (by rw [← hk]; exact congrArg some e.symm)) _⟩
theorem OutR.setN (h : OutR w wO go N G v2 v3 v4 v5 v6 r2 r3 r4 r5 r6) (u : Value) : OutR (w.setCell ⟨go, 0, none⟩ u) wO go u G v2 v3 v4 v5 v6 r2 r3 r4 r5 r6 :=
 ⟨h.b.setCell h.gin _, h.gin, blk_put h.t 0 u rfl, (h.far 0 u).1, (h.far 0 u).2.1, (h.far 0 u).2.2.1, (h.far 0 u).2.2.2.1, (h.far 0 u).2.2.2.2, h.ne⟩
theorem OutR.setG (h : OutR w wO go N G v2 v3 v4 v5 v6 r2 r3 r4 r5 r6) (u : Value) : OutR (w.setCell ⟨go, 1, none⟩ u) wO go N u v2 v3 v4 v5 v6 r2 r3 r4 r5 r6 :=
 ⟨h.b.setCell h.gin _, h.gin, blk_put h.t 1 u rfl, (h.far 1 u).1, (h.far 1 u).2.1, (h.far 1 u).2.2.1, (h.far 1 u).2.2.2.1, (h.far 1 u).2.2.2.2, h.ne⟩
end
theorem symKind_is {l : List SSym} {k s : Int} (h : symKind l k s) : isB l s k = true := by
 unfold isB
 rw [decide_eq_true h.1, decide_eq_true h.2.1, h.2.2]
 simp
theorem any_none {α : Type} {p : α → Bool} {l : List α} (h : ∀ x ∈ l, p x = false) : l.any p = false := by
 rw [List.any_eq_false]
 intro x hx
 rw [h x hx]
 decide
theorem outB_no {n s : Int} (h : 0 ≤ s ∧ s < n) : outB n s = false := by
 unfold outB
 rw [decide_eq_false (by omega), decide_eq_false (by omega)]
 rfl
def mkI (st : MSt) : List Int := if (st.i.length : Int) = 0 then [0] else st.i
theorem mkI_len {st : MSt} {n : Nat} (h : MkLen st n) : (mkI st).length ≤ n + 1 := by
 unfold mkI
 unfold MkLen at h
 split
 ·simp
 ·omega
theorem made_ok {l : List SSym} (hl : symOk l) (size : Int) (ns : List Int) {most : Int} (hm : 0 < most) (hm2 : most ≤ 100) :
 auto_Check.f l (makeN size most) (makeG size) (mkI (mkAll l (makeN size most) (makeG size) ns)) (mkAll l (makeN size most) (makeG size) ns).f (mkAll l (makeN size most) (makeG size) ns).o (mkAll l (makeN size most) (makeG size) ns).c (mkAll l (makeN size most) (makeG size) ns).n = some 0 := by
 have hN := makeN_in size hm
 have hG := makeG_in size
 generalize makeN size most = N at hN ⊢
 generalize makeG size = G at hG ⊢
 obtain ⟨hi, hlen⟩ := mkAll_inv hl (N := N) (G := G) (by omega) (by omega) ns
 generalize mkAll l N G ns = st at hi hlen ⊢
 have h0 := mkI_len hlen
 unfold MkLen at hlen
 have hl7 := hl.2.1
 unfold auto_Check.f
 rw [if_pos (by omega)]
 have e1 : bigA N G st.o.length st.c.length st.n.length = false := by
  unfold bigA
  rw [decide_eq_false (by omega), decide_eq_false (by omega), decide_eq_false (by omega), decide_eq_false (by omega), decide_eq_false (by omega)]
  rfl
 have e2 : (mkI st).any (outB N) = false := any_none fun x hx => by
  unfold mkI at hx
  split at hx
  ·rw [List.mem_singleton] at hx
   subst hx
   exact outB_no (by omega)
  ·exact outB_no (hi.i x hx)
 have e3 : st.f.any (outB N) = false := any_none fun x hx => outB_no (hi.f x hx)
 have e4 : st.o.any (badO l N G) = false := any_none fun x hx => by
  obtain ⟨h1, h2, h3, h4⟩ := hi.o x hx
  unfold badO
  rw [outB_no h1, outB_no h3, symKind_is h2, decide_eq_false (by omega), decide_eq_false (by omega)]
  rfl
 have e5 : st.c.any (badC l N G) = false := any_none fun x hx => by
  obtain ⟨h1, h2, h3, h4⟩ := hi.c x hx
  unfold badC
  rw [outB_no h1, outB_no h4, symKind_is h2, decide_eq_false (by omega), decide_eq_false (by omega)]
  rfl
 have e6 : st.n.any (badI l N) = false := any_none fun x hx => by
  obtain ⟨h1, h2, h3⟩ := hi.n x hx
  unfold badI
  rw [outB_no h1, outB_no h3, symKind_is h2]
  rfl
 rw [e1, e2, e3, e4, e5, e6]
 rfl
end Go.Proofs.YtejpijgfpbcibaaGreat.P
