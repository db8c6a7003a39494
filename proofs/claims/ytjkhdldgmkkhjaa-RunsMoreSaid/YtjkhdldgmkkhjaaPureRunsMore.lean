/- RunsMore's plain law: with one rule more no word that was taken is not. -/
import Derived.Test.YtjkhdldgmkkhjaaPCanopylaw4RunsMore
import Derived.Test.YtjkhdldgmkkhjaaUConf
set_option linter.unusedVariables false
set_option linter.unusedSimpArgs false
namespace Go.Proofs.Ytjkhdldgmkkhjaa.Pure
open Go.RowKit Go.Proofs.Ytjkhdldgmkkhjaa.P Go.Proofs.YtjkhdldgmkkhjaaW.PrintWords Go.Proofs.YtjkhdldgmkkhjaaW.PrintLast Go.Proofs.YtjkhdldgmkkhjaaW.PrintMore

structure MSub (a b : MSt) : Prop where
  i : ∀ x ∈ a.i, x ∈ b.i
  f : ∀ x ∈ a.f, x ∈ b.f
  o : ∀ x ∈ a.o, x ∈ b.o
  c : ∀ x ∈ a.c, x ∈ b.c
  n : ∀ x ∈ a.n, x ∈ b.n
theorem MSub.refl (a : MSt) : MSub a a := ⟨fun _ h => h, fun _ h => h, fun _ h => h, fun _ h => h, fun _ h => h⟩
theorem MSub.trans {a b c : MSt} (h : MSub a b) (k : MSub b c) : MSub a c := ⟨fun x q => k.i x (h.i x q), fun x q => k.f x (h.f x q), fun x q => k.o x (h.o x q), fun x q => k.c x (h.c x q), fun x q => k.n x (h.n x q)⟩
theorem sub_one (l : List SSym) (N G : Int) (st : MSt) (x : Int) : MSub st (mkOne l N G st x) := by
  unfold mkOne mkT
  repeat' split
  all_goals (refine ⟨fun _ h => ?_, fun _ h => ?_, fun _ h => ?_, fun _ h => ?_, fun _ h => ?_⟩ <;> first | exact h | exact List.mem_append_left _ h)
theorem sub_foldl (l : List SSym) (N G : Int) : ∀ (ns : List Int) (st : MSt), MSub st (ns.foldl (mkOne l N G) st)
  | [], st => MSub.refl st
  | x :: ns, st => (sub_one l N G st x).trans (sub_foldl l N G ns _)
theorem has_init (l : List SSym) (N G : Int) : ∀ (ns : List Int) (st : MSt), (∃ x ∈ ns, x % 1099511627776 % 8 = 0) → (ns.foldl (mkOne l N G) st).i ≠ []
  | [], st, ⟨x, h, _⟩ => by simp at h
  | y :: ns, st, ⟨x, h, hx⟩ => by
    rcases List.mem_cons.1 h with rfl | h
    · have h1 := (sub_foldl l N G ns (mkOne l N G st x)).i (x % 1099511627776 / 8 % N) (by unfold mkOne mkT; rw [if_pos hx]; simp)
      intro e
      rw [List.foldl_cons] at e
      rw [e] at h1
      simp at h1
    · exact has_init l N G ns _ ⟨x, h, hx⟩
theorem run_mono {l : List SSym} {a b : MSt} (S : MSub a b) : ∀ (w : List Int), (∀ s ∈ w, 0 ≤ s ∧ s < l.length) → ∀ {p q : List TAt}, (∀ x ∈ p, x ∈ q) → ∀ x ∈ runL l a.o a.c a.n p w, x ∈ runL l b.o b.c b.n q w
  | [], _, p, q, h => h
  | s :: w, hw, p, q, h => run_mono S w (fun x hx => hw x (List.mem_cons_of_mem _ hx)) (fun y hy => by
    have hs := hw s List.mem_cons_self
    obtain ⟨x, hx, hm⟩ := (mem_step hs).1 hy
    refine (mem_step hs).2 ⟨x, h x hx, ?_⟩
    unfold moveL at hm ⊢
    split at hm
    · rename_i k1
      rw [if_pos k1]
      obtain ⟨o, ho, hc, e⟩ := mem_open.1 hm
      exact mem_open.2 ⟨o, S.o o ho, hc, e⟩
    rename_i k1
    rw [if_neg k1]
    split at hm
    · rename_i k2
      rw [if_pos k2]
      obtain ⟨o, ho, hc, e⟩ := mem_close.1 hm
      exact mem_close.2 ⟨o, S.c o ho, hc, e⟩
    rename_i k2
    rw [if_neg k2]
    obtain ⟨o, ho, hc, e⟩ := mem_inner.1 hm
    exact mem_inner.2 ⟨o, S.n o ho, hc, e⟩)
theorem takes_val (l : List SSym) (hl : symOk l) (N G : Int) (st : MSt) (h : MkLen st 24) (w : List Int) (hw : w.length ≤ 1000) : runs_Takes.f l (mkFin N G st).1 (mkFin N G st).2.1 (mkFin N G st).2.2.1 (mkFin N G st).2.2.2.1 (mkFin N G st).2.2.2.2.1 (mkFin N G st).2.2.2.2.2.1 (mkFin N G st).2.2.2.2.2.2 w
    = some (takesB l (mkFin N G st).2.2.1 (mkFin N G st).2.2.2.1 (mkFin N G st).2.2.2.2.1 (mkFin N G st).2.2.2.2.2.1 (mkFin N G st).2.2.2.2.2.2 w) := by
  obtain ⟨h1, h2, h3, h4, h5⟩ := h
  have := hl.2.1
  unfold runs_Takes.f
  rw [if_pos]
  refine ⟨by omega, ?_, by show st.f.length ≤ _; omega, by show st.o.length ≤ _; omega, by show st.c.length ≤ _; omega, by show st.n.length ≤ _; omega, by omega⟩
  show (if (st.i.length : Int) = 0 then [0] else st.i).length ≤ 1000000
  split
  · simp
  · omega
/-- the loop that looks whether a number tells a first state -/
theorem has_loop (l : List SSym) (l2 w : List Int) (A B : Int × Int × List Int × List Int × List MOpen × List MClose × List MInner) (ta tb : Bool)
    (ha : runs_Takes.f l A.1 A.2.1 A.2.2.1 A.2.2.2.1 A.2.2.2.2.1 A.2.2.2.2.2.1 A.2.2.2.2.2.2 w = some ta) (hb : runs_Takes.f l B.1 B.2.1 B.2.2.1 B.2.2.2.1 B.2.2.2.2.1 B.2.2.2.2.2.1 B.2.2.2.2.2.2 w = some tb)
    (law : (∃ x ∈ l2.take 20, x % 1099511627776 % 8 = 0) → ta = true → tb = true) : ∀ (d : Nat) (i : Int), 0 ≤ i → i ≤ 20 → 20 - i = d → ∀ has : Bool, (has = true → ∃ x ∈ l2.take 20, x % 1099511627776 % 8 = 0) → ∀ k, d < k →
    canopylaw4_RunsMore.l0 k l2 l w has i B.1 B.2.1 B.2.2.1 B.2.2.2.1 B.2.2.2.2.1 B.2.2.2.2.2.1 B.2.2.2.2.2.2 A.1 A.2.1 A.2.2.1 A.2.2.2.1 A.2.2.2.2.1 A.2.2.2.2.2.1 A.2.2.2.2.2.2 = some true
  | d, i, h0, h1, hd, has, hh, k + 1, hk => by
    have fin : (if has = true then ((runs_Takes.f l A.1 A.2.1 A.2.2.1 A.2.2.2.1 A.2.2.2.2.1 A.2.2.2.2.2.1 A.2.2.2.2.2.2 w).bind fun t493 => (if t493 = true then ((runs_Takes.f l B.1 B.2.1 B.2.2.1 B.2.2.2.1 B.2.2.2.2.1 B.2.2.2.2.2.1 B.2.2.2.2.2.2 w).bind fun t494 => (some t494)) else (some true))) else (some true)) = some true := by
      rw [ha, hb]
      simp only [Option.bind_some]
      split
      · rename_i c
        split
        · rename_i c2
          rw [law (hh c) c2]
        · rfl
      · rfl
    unfold canopylaw4_RunsMore.l0
    by_cases c1 : i < (l2.length : Int)
    · rw [if_pos c1]
      by_cases c2 : i < 20
      · obtain ⟨d, rfl⟩ : ∃ e, d = e + 1 := ⟨d - 1, by omega⟩
        rw [if_pos c2, wrap_id (by omega) (by omega)]
        by_cases c3 : has = true
        · rw [if_pos c3]
          exact has_loop l l2 w A B ta tb ha hb law d (i + 1) (by omega) (by omega) (by omega) true (fun _ => hh c3) k (by omega)
        · rw [if_neg c3, if_pos h0, within4_eq (by omega) (by omega)]
          simp only [Option.bind_some]
          refine has_loop l l2 w A B ta tb ha hb law d (i + 1) (by omega) (by omega) (by omega) _ (fun h => ⟨rd l2 i, ?_, ?_⟩) k (by omega)
          · have : rd l2 i = (l2.take 20)[i.toNat]'(by simp; omega) := by
              rw [List.getElem_take]
              unfold rd
              rw [List.getD_eq_getElem?_getD, List.getElem?_eq_getElem (by omega)]
              rfl
            rw [this]
            exact List.getElem_mem _
          · have h2 := beq_iff_eq.1 h
            rw [Int.tmod_eq_emod_of_nonneg (Int.emod_nonneg _ (by omega))] at h2
            exact h2
      · rw [if_neg c2]; exact fin
    · rw [if_neg c1]; exact fin
/-- YOURS -/
theorem RunsMore : canopylaw4_RunsMore.Pure := by
  intro a0 a1 l2 l3 l4 w0 w1 m2 y2 f2 m3 y3 f3 m4 y4 f4
  have hl := symsL_ok a0 l2
  have emn : (mn (l2.length : Int) 20).toNat = min l2.length 20 := by unfold mn; split <;> omega
  have etk : l2.take (mn (l2.length : Int) 20).toNat = l2.take 20 := by
    rw [emn]
    rcases Nat.le_total l2.length 20 with h | h
    · rw [Nat.min_eq_left h, List.take_of_length_le (by omega), List.take_of_length_le (by omega)]
    · rw [Nat.min_eq_right h]
  have hm0 : 0 ≤ mn (l2.length : Int) 20 := by unfold mn; split <;> omega
  have hm1 : mn (l2.length : Int) 20 ≤ (l2.length : Int) := by unfold mn; split <;> omega
  have hlen : (l2.take 20).length ≤ 20 := by simp; omega
  obtain ⟨k1, h1⟩ := make_eq hl a1 (([] ++ l2.take 20) ++ l3) 4 (by omega) (by omega)
  obtain ⟨k2, h2⟩ := make_eq hl a1 (l2.take 20) 4 (by omega) (by omega)
  have hN := makeN_in a1 (most := 4) (by omega)
  have hG := makeG_in a1
  have hw := word_eq hl l4 m4 10 (by omega) (by omega)
  have hwm : ∀ x ∈ wordL (symsL a0 l2) l4 10, 0 ≤ x ∧ x < (symsL a0 l2).length := fun x hx => wordL_mem hl hx
  have hwl := wordL_len (symsL a0 l2) l4 10
  have hf := few_eq (l := symsL a0 l2) _ (by omega) hwm 4 (by omega)
  have hfm := few_mem (l := symsL a0 l2) (most := 4) (n := 0) hwm
  have hfl := few_len (l := symsL a0 l2) (most := 4) (n := 0) (w := wordL (symsL a0 l2) l4 10)
  have ia := mkAll_inv hl (N := makeN a1 4) (G := makeG a1) (by omega) (by omega) (l2.take 20)
  have ib := mkAll_inv hl (N := makeN a1 4) (G := makeG a1) (by omega) (by omega) (([] ++ l2.take 20) ++ l3)
  have law : (∃ x ∈ l2.take 20, x % 1099511627776 % 8 = 0) → takesB (symsL a0 l2) (makeL (symsL a0 l2) a1 (l2.take 20) 4).2.2.1 (makeL (symsL a0 l2) a1 (l2.take 20) 4).2.2.2.1 (makeL (symsL a0 l2) a1 (l2.take 20) 4).2.2.2.2.1 (makeL (symsL a0 l2) a1 (l2.take 20) 4).2.2.2.2.2.1 (makeL (symsL a0 l2) a1 (l2.take 20) 4).2.2.2.2.2.2 (fewL (symsL a0 l2) 4 (wordL (symsL a0 l2) l4 10) 0) = true →
      takesB (symsL a0 l2) (makeL (symsL a0 l2) a1 (([] ++ l2.take 20) ++ l3) 4).2.2.1 (makeL (symsL a0 l2) a1 (([] ++ l2.take 20) ++ l3) 4).2.2.2.1 (makeL (symsL a0 l2) a1 (([] ++ l2.take 20) ++ l3) 4).2.2.2.2.1 (makeL (symsL a0 l2) a1 (([] ++ l2.take 20) ++ l3) 4).2.2.2.2.2.1 (makeL (symsL a0 l2) a1 (([] ++ l2.take 20) ++ l3) 4).2.2.2.2.2.2 (fewL (symsL a0 l2) 4 (wordL (symsL a0 l2) l4 10) 0) = true := by
    intro hx ht
    have S : MSub (mkAll (symsL a0 l2) (makeN a1 4) (makeG a1) (l2.take 20)) (mkAll (symsL a0 l2) (makeN a1 4) (makeG a1) (([] ++ l2.take 20) ++ l3)) := by
      unfold mkAll
      rw [List.take_of_length_le (show (l2.take 20).length ≤ 24 by omega), List.nil_append, List.take_append, List.take_of_length_le (show (l2.take 20).length ≤ 24 by omega), List.foldl_append]
      exact sub_foldl _ _ _ _ _
    have ne : (mkAll (symsL a0 l2) (makeN a1 4) (makeG a1) (l2.take 20)).i ≠ [] := by
      unfold mkAll
      rw [List.take_of_length_le (show (l2.take 20).length ≤ 24 by omega)]
      exact has_init _ _ _ _ _ hx
    have ne2 : (mkAll (symsL a0 l2) (makeN a1 4) (makeG a1) (([] ++ l2.take 20) ++ l3)).i ≠ [] := by
      intro e
      obtain ⟨y, hy⟩ := List.exists_mem_of_ne_nil _ ne
      have := S.i y hy
      rw [e] at this
      simp at this
    have init : ∀ ns, (mkAll (symsL a0 l2) (makeN a1 4) (makeG a1) ns).i ≠ [] → (makeL (symsL a0 l2) a1 ns 4).2.2.1 = (mkAll (symsL a0 l2) (makeN a1 4) (makeG a1) ns).i := fun ns h => by
      show (if ((mkAll (symsL a0 l2) (makeN a1 4) (makeG a1) ns).i.length : Int) = 0 then [0] else (mkAll (symsL a0 l2) (makeN a1 4) (makeG a1) ns).i) = _
      rw [if_neg]
      intro e
      exact h (List.length_eq_zero_iff.1 (by omega))
    rw [takes_iff hfm] at ht ⊢
    obtain ⟨x, hx1, hx2⟩ := ht
    refine ⟨x, run_mono S _ hfm (fun y hy => ?_) x hx1, S.f _ hx2⟩
    rw [mem_start] at hy ⊢
    rw [init _ ne] at hy
    rw [init _ ne2]
    exact ⟨S.i _ hy.1, hy.2⟩
  refine ⟨k1 + k2 + 2000, ?_⟩
  unfold canopylaw4_RunsMore.f
  rw [show canopylaw4_known.f = some true from rfl, syms_eq a0 l2 m2]
  simp only [Option.bind_some, if_true, etk, List.length_nil]
  rw [if_pos hm0, if_pos hm1, if_pos (by omega), if_pos (by simp only [List.length_append, List.length_nil]; omega), h1 _ (by omega), h2 _ (by omega), hw _ (by omega)]
  simp only [Option.bind_some]
  rw [hf _ (by omega)]
  simp only [Option.bind_some]
  by_cases c : (l2.length : Int) = 0
  · rw [if_pos c]
  · rw [if_neg c]
    exact has_loop _ l2 _ (makeL (symsL a0 l2) a1 (l2.take 20) 4) (makeL (symsL a0 l2) a1 (([] ++ l2.take 20) ++ l3) 4) _ _ (takes_val _ hl _ _ _ ia.2 _ (by omega)) (takes_val _ hl _ _ _ ib.2 _ (by omega)) law 20 0 (by omega) (by omega) (by omega) false (by simp) _ (by omega)
end Go.Proofs.Ytjkhdldgmkkhjaa.Pure
