/- RunsParts's plain law: step by step is as one word behind the other. -/
import Derived.Test.YtjkhdldgmkkhjaaPCanopylaw4RunsParts
import Derived.Test.YtjkhdldgmkkhjaaUConf
set_option linter.unusedVariables false
set_option linter.unusedSimpArgs false
namespace Go.Proofs.Ytjkhdldgmkkhjaa.Pure
open Go.RowKit Go.Proofs.Ytjkhdldgmkkhjaa.P Go.Proofs.YtjkhdldgmkkhjaaW.PrintWords Go.Proofs.YtjkhdldgmkkhjaaW.PrintLast Go.Proofs.YtjkhdldgmkkhjaaW.PrintMore

theorem bind_step {α β : Type} {a : Option α} {x : α} {f : α → Option β} {r : Option β} (h : a = some x) (k : f x = r) : a.bind f = r := by rw [h]; exact k
section
variable {l : List SSym} {w : List Int} {kk N G : Int} {init final : List Int} {st : MSt}
theorem loop2 (hl : symOk l) (hk0 : 0 ≤ kk) (hk1 : kk ≤ w.length) (hwl : w.length ≤ 1000) (hN : 0 ≤ N) (hN4 : N ≤ 4) (hi : init.length ≤ 24) (L : MkLen st 24) (at2 : List Bool) (hat : at2.length = N.toNat)
    (law : ∀ q : Int, 0 ≤ q → q < N → takesB l init [q] st.o st.c st.n (w.take kk.toNat) = rdOf false at2 q) : ∀ (d : Nat) (q : Int), 0 ≤ q → q ≤ N → N - q = d → ∀ (fin : List Int) k, d < k →
    canopylaw4_RunsParts.l2 k l w kk at2 q N G init final st.o st.c st.n N G init fin st.o st.c st.n = some true
  | d, q, h0, h1, hd, fin, k + 1, hk => by
    unfold canopylaw4_RunsParts.l2
    by_cases c1 : q < N
    · obtain ⟨d, rfl⟩ : ∃ e, d = e + 1 := ⟨d - 1, by omega⟩
      rw [if_pos c1]
      simp only [Option.bind_some]
      obtain ⟨L1, L2, L3, L4, L5⟩ := L
      have := hl.2.1
      have t : runs_Takes.f l N G init [q] st.o st.c st.n (w.take kk.toNat) = some (rdOf false at2 q) := by
        unfold runs_Takes.f
        rw [if_pos ⟨by omega, by omega, by simp, by omega, by omega, by omega, by simp; omega⟩, law q h0 c1]
      rw [if_pos hk0, if_pos hk1, t]
      simp only [Option.bind_some]
      rw [if_pos h0, if_pos (by omega), if_neg (by simp), wrap_id (by omega) (by omega)]
      exact loop2 hl hk0 hk1 hwl hN hN4 hi ⟨L1, L2, L3, L4, L5⟩ at2 hat law d (q + 1) (by omega) (by omega) (by omega) _ k (by omega)
    · rw [if_neg c1]
def marked (N : Int) (p : List TAt) : List Bool := p.foldl (fun b x => b.set x.f0.toNat true) (List.replicate N.toNat false)
theorem marked_len : ∀ (p : List TAt) (b : List Bool), (p.foldl (fun b x => b.set x.f0.toNat true) b).length = b.length
  | [], b => rfl
  | x :: p, b => by rw [List.foldl_cons, marked_len p]; simp
theorem loop1 {p : List TAt} (hN : 0 ≤ N) (hN4 : N ≤ 4) (hp : ∀ x ∈ p, 0 ≤ x.f0 ∧ x.f0 < N) (hpl : p.length ≤ 1000000)
    (next : ∀ (fin : List Int) k, 5 < k → canopylaw4_RunsParts.l2 k l w kk (marked N p) 0 N G init final st.o st.c st.n N G init fin st.o st.c st.n = some true) : ∀ (d : Nat) (i : Int), 0 ≤ i → i ≤ p.length → p.length - i = d → ∀ (b : List Bool), b.length = N.toNat → (p.drop i.toNat).foldl (fun b x => b.set x.f0.toNat true) b = marked N p → ∀ k, d + 6 < k →
    canopylaw4_RunsParts.l1 k l w kk b p i N G init final st.o st.c st.n N G init st.o st.c st.n = some true
  | d, i, h0, h1, hd, b, hb, hm, k + 1, hk => by
    unfold canopylaw4_RunsParts.l1
    by_cases c1 : i < (p.length : Int)
    · obtain ⟨d, rfl⟩ : ∃ e, d = e + 1 := ⟨d - 1, by omega⟩
      have hx : rd_T48 p i = p[i.toNat]'(by omega) := by
        unfold rd_T48
        rw [List.getD_eq_getElem?_getD, List.getElem?_eq_getElem (by omega)]
        rfl
      have hq := hp (rd_T48 p i) (by rw [hx]; exact List.getElem_mem _)
      rw [if_pos c1, if_pos h0, if_neg (by omega), if_neg (by omega), if_pos hq.1, if_pos (by omega), wrap_id (by omega) (by omega)]
      refine loop1 hN hN4 hp hpl next d (i + 1) (by omega) (by omega) (by omega) _ (by simp [hb]) ?_ k (by omega)
      rw [List.drop_eq_getElem_cons (show i.toNat < p.length by omega), List.foldl_cons, ← hx] at hm
      rw [show (i + 1).toNat = i.toNat + 1 by omega]
      exact hm
    · rw [if_neg c1]
      rw [List.drop_of_length_le (by omega)] at hm
      have hm' : b = marked N p := hm
      rw [hm']
      exact next _ k (by omega)
theorem marked_at : ∀ (p : List TAt) (b : List Bool) (q : Int), 0 ≤ q → q < b.length → (∀ x ∈ p, 0 ≤ x.f0) → (rdOf false (p.foldl (fun b x => b.set x.f0.toNat true) b) q = true ↔ rdOf false b q = true ∨ ∃ x ∈ p, x.f0 = q)
  | [], b, q, h0, h1, hp => by simp
  | x :: p, b, q, h0, h1, hp => by
    rw [List.foldl_cons, marked_at p _ q h0 (by simp; omega) (fun y hy => hp y (List.mem_cons_of_mem _ hy))]
    have hx := hp x List.mem_cons_self
    have e : rdOf false (b.set x.f0.toNat true) q = true ↔ rdOf false b q = true ∨ x.f0 = q := by
      unfold rdOf
      rw [List.getD_eq_getElem?_getD, List.getD_eq_getElem?_getD, List.getElem?_set]
      by_cases c : x.f0.toNat = q.toNat
      · rw [if_pos c, if_pos (by omega)]
        simp
        right
        omega
      · rw [if_neg c]
        constructor
        · exact fun h => .inl h
        · rintro (h | h)
          · exact h
          · exact absurd (by rw [h]) c
    rw [e]
    simp only [List.mem_cons]
    constructor
    · rintro ((h | h) | ⟨y, hy, h⟩)
      · exact .inl h
      · exact .inr ⟨x, .inl rfl, h⟩
      · exact .inr ⟨y, .inr hy, h⟩
    · rintro (h | ⟨y, rfl | hy, h⟩)
      · exact .inl (.inl h)
      · exact .inl (.inr h)
      · exact .inr ⟨y, hy, h⟩
theorem loop0 (hG : 0 ≤ G) (hG2 : G ≤ 2) (hw : ∀ s ∈ w, 0 ≤ s ∧ s < l.length) (I : MkInv l N G st) (L : MkLen st 24) (hN : 0 ≤ N) (hN4 : N ≤ 4) (hk0 : 0 ≤ kk) (hk1 : kk ≤ w.length) (hwl : w.length ≤ 1000) (ho : opensIn l w ≤ 14) (hin : ∀ s ∈ init, 0 ≤ s ∧ s < N) {K : Nat}
    (next : ∀ k, K < k → canopylaw4_RunsParts.l1 k l w kk (List.replicate N.toNat false) (runL l st.o st.c st.n (startL init) (w.take kk.toNat)) 0 N G init final st.o st.c st.n N G init st.o st.c st.n = some true) : ∀ (d : Nat) (i : Int), 0 ≤ i → i ≤ kk → kk - i = d → ∀ k, K + d + 1 < k →
    canopylaw4_RunsParts.l0 k l w kk (List.replicate N.toNat false) (runL l st.o st.c st.n (startL init) (w.take i.toNat)) i N G init final st.o st.c st.n N G init st.o st.c st.n = some true
  | d, i, h0, h1, hd, k + 1, hk => by
    unfold canopylaw4_RunsParts.l0
    by_cases c1 : i < kk
    · obtain ⟨d, rfl⟩ : ∃ e, d = e + 1 := ⟨d - 1, by omega⟩
      have sub : ∀ s ∈ w.take i.toNat, 0 ≤ s ∧ s < l.length := fun s hs => hw s (List.mem_of_mem_take hs)
      have hc := conf_run I (w.take i.toNat) (at_ := startL init) (d := 0) (conf_start hin) sub
      have hs := run_sorted (l := l) (os := st.o) (cs := st.c) (is := st.n) (w.take i.toNat) (start_sorted init)
      have hd := dRun_le l (w.take i.toNat) 0
      have hd2 := opens_take l w i.toNat
      have ok := step_ok hN hN4 hG hG2 (by omega) hs hc L
      have e : runs_Step.f l N G init final st.o st.c st.n (runL l st.o st.c st.n (startL init) (w.take i.toNat)) (rd w i) = some (runL l st.o st.c st.n (startL init) (w.take (i + 1).toNat)) := by
        unfold runs_Step.f
        rw [if_pos ok, take_last w i h0 (by omega), run_snoc]
      rw [if_pos c1, if_pos h0, if_pos (by omega), e]
      simp only [Option.bind_some]
      rw [wrap_id (by omega) (by omega)]
      exact loop0 hG hG2 hw I L hN hN4 hk0 hk1 hwl ho hin next d (i + 1) (by omega) (by omega) (by omega) k (by omega)
    · rw [if_neg c1, show i = kk by omega]
      exact next k (by omega)
end
/-- YOURS -/
theorem RunsParts : canopylaw4_RunsParts.Pure := by
  intro a0 a1 l2 l3 a4 w0 w1 m2 y2 f2 m3 y3 f3 w4
  have hl := symsL_ok a0 l2
  obtain ⟨k1, h1⟩ := make_eq hl a1 l2 4 (by omega) (by omega)
  have hN := makeN_in a1 (most := 4) (by omega)
  have hG := makeG_in a1
  have hw := word_eq hl l3 m3 10 (by omega) (by omega)
  have hwm : ∀ x ∈ wordL (symsL a0 l2) l3 10, 0 ≤ x ∧ x < (symsL a0 l2).length := fun x hx => wordL_mem hl hx
  have hwl := wordL_len (symsL a0 l2) l3 10
  have hf := few_eq (l := symsL a0 l2) _ (by omega) hwm 5 (by omega)
  have hfm := few_mem (l := symsL a0 l2) (most := 5) (n := 0) hwm
  have hfl := few_len (l := symsL a0 l2) (most := 5) (n := 0) (w := wordL (symsL a0 l2) l3 10)
  have hfo := few_opens (l := symsL a0 l2) (most := 5) (n := 0) (w := wordL (symsL a0 l2) l3 10) (by omega)
  obtain ⟨I, L⟩ := mkAll_inv hl (N := makeN a1 4) (G := makeG a1) (by omega) (by omega) l2
  obtain ⟨K0, hK0⟩ : ∃ K0 : Nat, 70000 ≤ K0 := ⟨_, Nat.le_refl _⟩
  obtain ⟨K, hK⟩ : ∃ K : Nat, k1 + K0 + 3000 ≤ K := ⟨_, Nat.le_refl _⟩
  refine ⟨K, ?_⟩
  unfold canopylaw4_RunsParts.f
  refine bind_step (show canopylaw4_known.f = some true from rfl) ?_
  refine (if_pos rfl).trans ?_
  refine bind_step (syms_eq a0 l2 m2) ?_
  refine bind_step (h1 K (by omega)) ?_
  refine bind_step (hw K (by omega)) ?_
  refine bind_step (hf K (by omega)) ?_
  generalize fewL (symsL a0 l2) 5 (wordL (symsL a0 l2) l3 10) 0 = w at hfm hfl hfo
  refine bind_step (show canopylaw4_within.f a4 (wrap64 ((w.length : Int) + 1)) = some (a4 % ((w.length : Int) + 1)) by rw [wrap_id (by omega) (by omega), within4_eq (by omega) (by omega)]) ?_
  have hk := emod_in (a := a4) (show (0 : Int) < (w.length : Int) + 1 by omega)
  generalize a4 % ((w.length : Int) + 1) = kk at hk
  generalize symsL a0 l2 = l at hl hfm hfo I L
  have el : makeL l a1 l2 4 = mkFin (makeN a1 4) (makeG a1) (mkAll l (makeN a1 4) (makeG a1) l2) := rfl
  rw [el]
  generalize mkAll l (makeN a1 4) (makeG a1) l2 = st at I L
  generalize makeN a1 4 = N at hN I
  generalize makeG a1 = G at hG I
  obtain ⟨init, hi⟩ : ∃ i, (if (st.i.length : Int) = 0 then [0] else st.i) = i := ⟨_, rfl⟩
  rw [show mkFin N G st = (N, G, init, st.f, st.o, st.c, st.n) by rw [← hi]; rfl]
  have hin : ∀ s ∈ init, 0 ≤ s ∧ s < N := by
    rw [← hi]
    split
    · intro s hs; rw [List.mem_singleton.1 hs]; omega
    · exact I.i
  have hil : init.length ≤ 24 := by
    rw [← hi]
    have := L.1
    split
    · simp
    · omega
  refine (if_pos (show 0 ≤ N by omega)).trans ?_
  refine (if_pos (show N.toNat ≤ 281474976710656 by omega)).trans ?_
  have es : runs_Start.f N G init st.f st.o st.c st.n = some (startL init) := by unfold runs_Start.f; rw [if_pos (by omega)]
  refine bind_step es ?_
  have sub : ∀ s ∈ w.take kk.toNat, 0 ≤ s ∧ s < l.length := fun s hs => hfm s (List.mem_of_mem_take hs)
  have hc := conf_run I (w.take kk.toNat) (at_ := startL init) (d := 0) (conf_start hin) sub
  have hs := run_sorted (l := l) (os := st.o) (cs := st.c) (is := st.n) (w.take kk.toNat) (start_sorted init)
  have hd := dRun_le l (w.take kk.toNat) 0
  have hd2 := opens_take l w kk.toNat
  have hfew := conf_few (by omega) (by omega) hs hc
  have h2 : G.toNat ^ dRun l (w.take kk.toNat) 0 ≤ 2 ^ 14 := Nat.le_trans (Nat.pow_le_pow_left (show G.toNat ≤ 2 by omega) _) (Nat.pow_le_pow_right (by omega) (by omega))
  have h3 : N.toNat * G.toNat ^ dRun l (w.take kk.toNat) 0 ≤ 4 * 2 ^ 14 := Nat.mul_le_mul (by omega) h2
  have l1 := fun k hk'' => loop1 (l := l) (w := w) (kk := kk) (N := N) (G := G) (init := init) (final := st.f) (st := st) (p := runL l st.o st.c st.n (startL init) (w.take kk.toNat)) (by omega) (by omega) (fun x hx => (hc x hx).s) (by omega)
    (fun fin k hk' => loop2 hl hk.1 (by omega) (by omega) (by omega) (by omega) hil L _ (by rw [marked, marked_len]; simp) (fun q q0 q1 => by
      have m := marked_at (runL l st.o st.c st.n (startL init) (w.take kk.toNat)) (List.replicate N.toNat false) q q0 (by simp; omega) (fun x hx => (hc x hx).s.1)
      have t := takes_iff (l := l) (os := st.o) (cs := st.c) (is := st.n) (init := init) (final := [q]) sub
      rw [Bool.eq_iff_iff, t, marked, m]
      constructor
      · rintro ⟨x, hx, h⟩; exact .inr ⟨x, hx, List.mem_singleton.1 h⟩
      · rintro (h | ⟨x, hx, h⟩)
        · unfold rdOf at h
          rw [List.getD_eq_getElem?_getD, List.getElem?_replicate] at h
          split at h <;> simp at h
        · exact ⟨x, hx, List.mem_singleton.2 h⟩) N.toNat 0 (by omega) (by omega) (by omega) fin k (by omega))
    (runL l st.o st.c st.n (startL init) (w.take kk.toNat)).length 0 (by omega) (by omega) (by omega) (List.replicate N.toNat false) (by simp) rfl k hk''
  exact loop0 (by omega) (by omega) hfm I L (by omega) (by omega) hk.1 (by omega) (by omega) (by omega) hin (K := K0) (fun k hk => l1 k (by omega)) kk.toNat 0 (by omega) hk.1 (by omega) _ (by omega)
end Go.Proofs.Ytjkhdldgmkkhjaa.Pure
