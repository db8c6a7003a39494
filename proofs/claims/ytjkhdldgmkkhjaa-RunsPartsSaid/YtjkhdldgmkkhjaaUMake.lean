/- What canopylaw3.Make tells: a machine over symbols, of numbers. -/
import Derived.Test.YtjkhdldgmkkhjaaUSyms
import Derived.Test.YtjkhdldgmkkhjaaPCanopylaw3Make
set_option linter.unusedVariables false
set_option linter.unusedSimpArgs false
namespace Go.Proofs.Ytjkhdldgmkkhjaa.P
open Go.RowKit Go.Proofs.YtjkhdldgmkkhjaaW.PrintWords Go.Proofs.YtjkhdldgmkkhjaaW.PrintLast Go.Proofs.YtjkhdldgmkkhjaaW.PrintMore

theorem within3_eq {a n : Int} (h : 0 < n) (hn : n < 4611686018427387904) : canopylaw3_within.f a n = some (a % n) := within_go h hn
abbrev MOpen := S52
abbrev MClose := S54
abbrev MInner := S56
def symKind (l : List SSym) (kind s : Int) : Prop := 0 ≤ s ∧ s < l.length ∧ (rd_T46 l s).f1 = kind
theorem pick_loop {l : List SSym} (hl : symOk l) (kind n : Int) (hn : 0 ≤ n) : ∀ (d : Nat) (i : Int), 0 ≤ i → i ≤ l.length → l.length - i = d → ∀ acc : List Int, acc.length ≤ i → (∀ x ∈ acc, symKind l kind x) → ∀ k, d < k →
    ∃ s, canopylaw3_pick.l0 k l kind n acc i = some s ∧ (s = -1 ∨ symKind l kind s)
  | d, i, h0, h1, hd, acc, ha, hx, k + 1, hk => by
    have hl7 := hl.2.1
    unfold canopylaw3_pick.l0
    by_cases c1 : i < (l.length : Int)
    · obtain ⟨d, rfl⟩ : ∃ e, d = e + 1 := ⟨d - 1, by omega⟩
      rw [if_pos c1, if_pos h0, wrap_id (by omega) (by omega)]
      by_cases c2 : (rd_T46 l i).f1 = kind
      · rw [if_pos c2, if_pos (by omega)]
        exact pick_loop hl kind n hn d (i + 1) (by omega) (by omega) (by omega) _ (by simp; omega) (fun x hx2 => by
          rcases List.mem_append.1 hx2 with h | h
          · exact hx x h
          · rw [List.mem_singleton.1 h]; exact ⟨h0, c1, c2⟩) k (by omega)
      · rw [if_neg c2]
        exact pick_loop hl kind n hn d (i + 1) (by omega) (by omega) (by omega) _ (by omega) hx k (by omega)
    · rw [if_neg c1]
      by_cases c2 : (acc.length : Int) = 0
      · rw [if_pos c2]; exact ⟨_, rfl, .inl rfl⟩
      · rw [if_neg c2, Int.tmod_eq_emod_of_nonneg hn]
        have e0 := Int.emod_nonneg n c2
        have e1 := Int.emod_lt_of_pos n (show (0 : Int) < acc.length by omega)
        rw [if_pos e0, if_pos e1]
        refine ⟨_, rfl, .inr (hx _ ?_)⟩
        unfold rd
        rw [List.getD_eq_getElem?_getD, List.getElem?_eq_getElem (by omega)]
        exact List.getElem_mem _
def pickL (l : List SSym) (kind n : Int) : Int := (canopylaw3_pick.f 100 l kind n).getD (-1)
theorem pick_eq {l : List SSym} (hl : symOk l) (kind n : Int) (hn : 0 ≤ n) (k : Nat) (hk : 100 ≤ k) : canopylaw3_pick.f k l kind n = some (pickL l kind n) := by
  obtain ⟨s, h, _⟩ := pick_loop hl kind n hn l.length 0 (by omega) (by omega) (by omega) [] (by simp) (by simp) 100 (by have := hl.2.1; omega)
  have h' : canopylaw3_pick.f 100 l kind n = some s := h
  rw [leO_le (f := fun k => canopylaw3_pick.f k l kind n) (fun k => canopylaw3_pick.mono l kind n k) hk h', pickL, h']; rfl
theorem pick_ok {l : List SSym} (hl : symOk l) (kind n : Int) (hn : 0 ≤ n) : pickL l kind n = -1 ∨ symKind l kind (pickL l kind n) := by
  obtain ⟨s, h, h2⟩ := pick_loop hl kind n hn l.length 0 (by omega) (by omega) (by omega) [] (by simp) (by simp) 100 (by have := hl.2.1; omega)
  have h' : canopylaw3_pick.f 100 l kind n = some s := h
  rw [pickL, h']; exact h2

structure MSt where
  i : List Int
  f : List Int
  o : List MOpen
  c : List MClose
  n : List MInner
def mkT (l : List SSym) (N G : Int) (st : MSt) (t : Int) : MSt :=
  if t % 8 = 0 then ⟨st.i ++ [t / 8 % N], st.f, st.o, st.c, st.n⟩
  else if t % 8 = 1 then ⟨st.i, st.f ++ [t / 8 % N], st.o, st.c, st.n⟩
  else if t % 8 = 2 ∨ t % 8 = 3 then (if 0 ≤ pickL l 1 (t / 800 % 7) then ⟨st.i, st.f, st.o ++ [⟨t / 8 % N, pickL l 1 (t / 800 % 7), t / 80 % N, 1 + t / 8000 % G⟩], st.c, st.n⟩ else st)
  else if t % 8 = 4 ∨ t % 8 = 5 then (if 0 ≤ pickL l 2 (t / 800 % 7) then ⟨st.i, st.f, st.o, st.c ++ [⟨t / 8 % N, pickL l 2 (t / 800 % 7), t / 8000 % (G + 1), t / 80 % N⟩], st.n⟩ else st)
  else if 0 ≤ pickL l 3 (t / 800 % 7) then ⟨st.i, st.f, st.o, st.c, st.n ++ [⟨t / 8 % N, pickL l 3 (t / 800 % 7), t / 80 % N⟩]⟩ else st
def mkOne (l : List SSym) (N G : Int) (st : MSt) (x : Int) : MSt := mkT l N G st (x % 1099511627776)
def mkAll (l : List SSym) (N G : Int) (ns : List Int) : MSt := (ns.take 24).foldl (mkOne l N G) ⟨[], [], [], [], []⟩
structure MkInv (l : List SSym) (N G : Int) (st : MSt) : Prop where
  i : ∀ x ∈ st.i, 0 ≤ x ∧ x < N
  f : ∀ x ∈ st.f, 0 ≤ x ∧ x < N
  o : ∀ r ∈ st.o, (0 ≤ r.f0 ∧ r.f0 < N) ∧ symKind l 1 r.f1 ∧ (0 ≤ r.f2 ∧ r.f2 < N) ∧ 1 ≤ r.f3 ∧ r.f3 ≤ G
  c : ∀ r ∈ st.c, (0 ≤ r.f0 ∧ r.f0 < N) ∧ symKind l 2 r.f1 ∧ (0 ≤ r.f2 ∧ r.f2 ≤ G) ∧ 0 ≤ r.f3 ∧ r.f3 < N
  n : ∀ r ∈ st.n, (0 ≤ r.f0 ∧ r.f0 < N) ∧ symKind l 3 r.f1 ∧ 0 ≤ r.f2 ∧ r.f2 < N
def MkLen (st : MSt) (n : Nat) : Prop := st.i.length ≤ n ∧ st.f.length ≤ n ∧ st.o.length ≤ n ∧ st.c.length ≤ n ∧ st.n.length ≤ n
theorem emod_in {a N : Int} (h : 0 < N) : 0 ≤ a % N ∧ a % N < N := ⟨Int.emod_nonneg _ (by omega), Int.emod_lt_of_pos _ h⟩
theorem mem_snoc {α : Type} {P : α → Prop} {l : List α} {y : α} (h : ∀ x ∈ l, P x) (hy : P y) : ∀ x ∈ l ++ [y], P x := fun x hx => by
  rcases List.mem_append.1 hx with h1 | h1
  · exact h x h1
  · rw [List.mem_singleton.1 h1]; exact hy
theorem mkOne_inv {l : List SSym} (hl : symOk l) {N G : Int} (hN : 0 < N) (hG : 0 < G) {st : MSt} (h : MkInv l N G st) (x : Int) : MkInv l N G (mkOne l N G st x) := by
  have hp : ∀ kind, 0 ≤ pickL l kind (x % 1099511627776 / 800 % 7) → symKind l kind (pickL l kind (x % 1099511627776 / 800 % 7)) := fun kind h0 => by
    rcases pick_ok hl kind (x % 1099511627776 / 800 % 7) (by omega) with h | h
    · omega
    · exact h
  have hG1 := emod_in (a := x % 1099511627776 / 8000) hG
  have hG2 := emod_in (a := x % 1099511627776 / 8000) (show 0 < G + 1 by omega)
  unfold mkOne mkT
  split
  · exact ⟨mem_snoc h.i (emod_in hN), h.f, h.o, h.c, h.n⟩
  split
  · exact ⟨h.i, mem_snoc h.f (emod_in hN), h.o, h.c, h.n⟩
  split
  · split
    · exact ⟨h.i, h.f, mem_snoc h.o ⟨emod_in hN, hp 1 (by assumption), emod_in hN, by show 1 ≤ 1 + _; omega, by show 1 + _ ≤ G; omega⟩, h.c, h.n⟩
    · exact h
  split
  · split
    · exact ⟨h.i, h.f, h.o, mem_snoc h.c ⟨emod_in hN, hp 2 (by assumption), ⟨hG2.1, by show _ % _ ≤ G; omega⟩, emod_in hN⟩, h.n⟩
    · exact h
  split
  · exact ⟨h.i, h.f, h.o, h.c, mem_snoc h.n ⟨emod_in hN, hp 3 (by assumption), emod_in hN⟩⟩
  · exact h
theorem mkOne_len {l : List SSym} {N G : Int} {st : MSt} {n : Nat} (h : MkLen st n) (x : Int) : MkLen (mkOne l N G st x) (n + 1) := by
  obtain ⟨h1, h2, h3, h4, h5⟩ := h
  unfold mkOne mkT
  repeat' split
  all_goals (refine ⟨?_, ?_, ?_, ?_, ?_⟩ <;> (try simp only [List.length_append, List.length_cons, List.length_nil]) <;> omega)
theorem foldl_inv {l : List SSym} (hl : symOk l) {N G : Int} (hN : 0 < N) (hG : 0 < G) : ∀ (ns : List Int) {st : MSt} {n : Nat}, MkInv l N G st → MkLen st n → MkInv l N G (ns.foldl (mkOne l N G) st) ∧ MkLen (ns.foldl (mkOne l N G) st) (n + ns.length)
  | [], _, _, h, h2 => ⟨h, h2⟩
  | x :: ns, st, n, h, h2 => by
    have := foldl_inv hl hN hG ns (mkOne_inv hl hN hG h x) (mkOne_len (l := l) (N := N) (G := G) h2 x)
    rw [List.length_cons, show n + (ns.length + 1) = n + 1 + ns.length by omega]
    exact this
theorem mkAll_inv {l : List SSym} (hl : symOk l) {N G : Int} (hN : 0 < N) (hG : 0 < G) (ns : List Int) : MkInv l N G (mkAll l N G ns) ∧ MkLen (mkAll l N G ns) 24 := by
  have h := foldl_inv hl hN hG (ns.take 24) (st := ⟨[], [], [], [], []⟩) (n := 0) ⟨by simp, by simp, by simp, by simp, by simp⟩ ⟨by simp, by simp, by simp, by simp, by simp⟩
  refine ⟨h.1, ?_⟩
  obtain ⟨_, h1, h2, h3, h4, h5⟩ := h
  have : (ns.take 24).length ≤ 24 := by simp; omega
  unfold mkAll
  exact ⟨by omega, by omega, by omega, by omega, by omega⟩
def mkFin (N G : Int) (st : MSt) : Int × Int × List Int × List Int × List MOpen × List MClose × List MInner := (N, G, (if (st.i.length : Int) = 0 then [0] else st.i), st.f, st.o, st.c, st.n)

theorem make_loop {l : List SSym} (hl : symOk l) (ns : List Int) {N G : Int} (hN : 0 < N) (hN2 : N ≤ 1000) (hG : 0 < G) (hG2 : G ≤ 1000) : ∀ (d : Nat) (i : Int), 0 ≤ i → 24 - i = d → ∀ st, MkLen st i.toNat →
    ∃ k0, ∀ k, k0 ≤ k → canopylaw3_Make.l0 k l ns i N G st.i st.f st.o st.c st.n = some (mkFin N G (((ns.take 24).drop i.toNat).foldl (mkOne l N G) st)) := by
  intro d
  induction d with
  | zero =>
    intro i h0 hi st hst
    refine ⟨2, fun k hk => ?_⟩
    obtain ⟨k, rfl⟩ : ∃ m, k = m + 2 := ⟨k - 2, by omega⟩
    rw [List.drop_of_length_le (by simp; omega), List.foldl_nil, mkFin]
    simp only [canopylaw3_Make.l0, canopylaw3_Make.j1, show ¬ i < 24 by omega, decide_false, ite_self, Bool.false_eq_true, if_false]
    split <;> rfl
  | succ d ih =>
    intro i h0 hi st hst
    by_cases c1 : i < (ns.length : Int)
    · have hst' := hst
      obtain ⟨a1, a2, a3, a4, a5⟩ := hst'
      have hdrop : (ns.take 24).drop i.toNat = rd ns i :: (ns.take 24).drop (i + 1).toNat := by
        have hi2 : i.toNat < (ns.take 24).length := by simp; omega
        rw [List.drop_eq_getElem_cons hi2, show (i + 1).toNat = i.toNat + 1 by omega]
        congr 1
        rw [List.getElem_take]
        unfold rd
        rw [List.getD_eq_getElem?_getD, List.getElem?_eq_getElem (by omega)]
        rfl
      have hst2 : MkLen (mkOne l N G st (rd ns i)) (i + 1).toNat := by
        rw [show (i + 1).toNat = i.toNat + 1 by omega]; exact mkOne_len hst _
      obtain ⟨k0, hk0⟩ := ih (i + 1) (by omega) (by omega) _ hst2
      rw [hdrop, List.foldl_cons]
      refine ⟨k0 + 104, fun k hk => ?_⟩
      obtain ⟨k, rfl⟩ : ∃ m, k = m + 4 := ⟨k - 4, by omega⟩
      have ht0 := Int.emod_nonneg (rd ns i) (show (1099511627776 : Int) ≠ 0 by omega)
      have ht1 := Int.emod_lt_of_pos (rd ns i) (show (0 : Int) < 1099511627776 by omega)
      rw [show mkOne l N G st (rd ns i) = mkT l N G st (rd ns i % 1099511627776) from rfl] at hk0 ⊢
      generalize ht : rd ns i % 1099511627776 = t at ht0 ht1 hk0 ⊢
      unfold mkT at hk0 ⊢
      have w : wrap64 (i + 1) = i + 1 := wrap_id (by omega) (by omega)
      have d8 : wrap64 (Int.tdiv t 8) = t / 8 := by rw [Int.tdiv_eq_ediv_of_nonneg ht0, wrap_id (by omega) (by omega)]
      have d80 : wrap64 (Int.tdiv t 80) = t / 80 := by rw [Int.tdiv_eq_ediv_of_nonneg ht0, wrap_id (by omega) (by omega)]
      have d800 : wrap64 (Int.tdiv t 800) = t / 800 := by rw [Int.tdiv_eq_ediv_of_nonneg ht0, wrap_id (by omega) (by omega)]
      have d8000 : wrap64 (Int.tdiv t 8000) = t / 8000 := by rw [Int.tdiv_eq_ediv_of_nonneg ht0, wrap_id (by omega) (by omega)]
      have m8 : Int.tmod t 8 = t % 8 := Int.tmod_eq_emod_of_nonneg ht0
      have mp : ∀ c : Int, 0 < c → ∀ M, Int.tmod (t / c) M = t / c % M := fun c hc M => Int.tmod_eq_emod_of_nonneg (Int.ediv_nonneg ht0 (by omega))
      have m1 := mp 8 (by omega) N
      have m2 := mp 80 (by omega) N
      have m3 := mp 800 (by omega) 7
      have m4 := mp 8000 (by omega) G
      have m5 := mp 8000 (by omega) (G + 1)
      have wG : wrap64 (G + 1) = G + 1 := wrap_id (by omega) (by omega)
      have hg := emod_in (a := t / 8000) hG
      have wG2 : wrap64 (1 + t / 8000 % G) = 1 + t / 8000 % G := wrap_id (by omega) (by omega)
      have h7 : 0 ≤ t / 800 % 7 := by omega
      have wi : canopylaw3_within.f (rd ns i) 1099511627776 = some t := by rw [within3_eq (by omega) (by omega), ht]
      have c24 : i < 24 := by omega
      unfold canopylaw3_Make.l0
      rw [if_pos c1]
      unfold canopylaw3_Make.j1
      rw [if_pos (decide_eq_true c24), if_pos h0, if_pos c1, wi]
      simp only [Option.bind_some, w, d8, d80, m8, m1, m2]
      rw [if_neg (show ¬ N = 0 by omega)]
      by_cases e0 : t % 8 = 0
      · rw [if_pos e0] at hk0
        rw [if_pos e0, if_pos (show st.i.length < 17592186044416 by omega), if_pos e0]
        exact hk0 _ (by omega)
      rw [if_neg e0] at hk0
      rw [if_neg e0, if_neg e0]
      by_cases e1 : t % 8 = 1
      · rw [if_pos e1] at hk0
        rw [if_pos e1, if_pos (show st.f.length < 17592186044416 by omega), if_pos e1]
        exact hk0 _ (by omega)
      rw [if_neg e1] at hk0
      rw [if_neg e1, if_neg e1]
      have p1 := pick_eq hl 1 (t / 800 % 7) h7 (k + 1) (by omega)
      have p2 := pick_eq hl 2 (t / 800 % 7) h7 k (by omega)
      have p3 := pick_eq hl 3 (t / 800 % 7) h7 k (by omega)
      have two : ∀ b : Bool, (b = true ↔ (t % 8 = 2 ∨ t % 8 = 3)) → canopylaw3_Make.j2 (k + 2) l ns i t (t / 8 % N) (t / 80 % N) (t % 8) b N G st.i st.f st.o st.c st.n = some (mkFin N G (List.foldl (mkOne l N G) (if t % 8 = 2 ∨ t % 8 = 3 then (if 0 ≤ pickL l 1 (t / 800 % 7) then ⟨st.i, st.f, st.o ++ [⟨t / 8 % N, pickL l 1 (t / 800 % 7), t / 80 % N, 1 + t / 8000 % G⟩], st.c, st.n⟩ else st)
  else if t % 8 = 4 ∨ t % 8 = 5 then (if 0 ≤ pickL l 2 (t / 800 % 7) then ⟨st.i, st.f, st.o, st.c ++ [⟨t / 8 % N, pickL l 2 (t / 800 % 7), t / 8000 % (G + 1), t / 80 % N⟩], st.n⟩ else st)
  else if 0 ≤ pickL l 3 (t / 800 % 7) then ⟨st.i, st.f, st.o, st.c, st.n ++ [⟨t / 8 % N, pickL l 3 (t / 800 % 7), t / 80 % N⟩]⟩ else st) ((ns.take 24).drop (i + 1).toNat))) := by
        intro b hb
        unfold canopylaw3_Make.j2
        simp only [d800, m3, d8000, m4, w, wG2, ge_iff_le]
        by_cases e2 : t % 8 = 2 ∨ t % 8 = 3
        · rw [if_pos (hb.2 e2), p1]
          rw [if_pos e2] at hk0 ⊢
          simp only [Option.bind_some]
          by_cases s0 : 0 ≤ pickL l 1 (t / 800 % 7)
          · rw [if_pos s0] at hk0 ⊢
            rw [if_neg (show ¬ G = 0 by omega), if_pos (by omega), if_pos s0]
            exact hk0 _ (by omega)
          · rw [if_neg s0] at hk0 ⊢
            rw [if_neg s0]
            exact hk0 _ (by omega)
        rw [if_neg (fun h => e2 (hb.1 h))]
        rw [if_neg e2] at hk0 ⊢
        have three : ∀ b : Bool, (b = true ↔ (t % 8 = 4 ∨ t % 8 = 5)) → canopylaw3_Make.j3 (k + 1) l ns i t (t / 8 % N) (t / 80 % N) b N G st.i st.f st.o st.c st.n = some (mkFin N G (List.foldl (mkOne l N G) (if t % 8 = 4 ∨ t % 8 = 5 then (if 0 ≤ pickL l 2 (t / 800 % 7) then ⟨st.i, st.f, st.o, st.c ++ [⟨t / 8 % N, pickL l 2 (t / 800 % 7), t / 8000 % (G + 1), t / 80 % N⟩], st.n⟩ else st)
  else if 0 ≤ pickL l 3 (t / 800 % 7) then ⟨st.i, st.f, st.o, st.c, st.n ++ [⟨t / 8 % N, pickL l 3 (t / 800 % 7), t / 80 % N⟩]⟩ else st) ((ns.take 24).drop (i + 1).toNat))) := by
          intro b hb
          unfold canopylaw3_Make.j3
          simp only [d800, m3, d8000, wG, m5, w, ge_iff_le]
          by_cases e4 : t % 8 = 4 ∨ t % 8 = 5
          · rw [if_pos (hb.2 e4), p2]
            rw [if_pos e4] at hk0 ⊢
            simp only [Option.bind_some]
            by_cases s0 : 0 ≤ pickL l 2 (t / 800 % 7)
            · rw [if_pos s0] at hk0 ⊢
              rw [if_neg (show ¬ G + 1 = 0 by omega), if_pos (by omega), if_pos s0]
              exact hk0 _ (by omega)
            · rw [if_neg s0] at hk0 ⊢
              rw [if_neg s0]
              exact hk0 _ (by omega)
          rw [if_neg (fun h => e4 (hb.1 h)), p3]
          rw [if_neg e4] at hk0 ⊢
          simp only [Option.bind_some]
          by_cases s0 : 0 ≤ pickL l 3 (t / 800 % 7)
          · rw [if_pos s0] at hk0 ⊢
            rw [if_pos (by omega), if_pos s0]
            exact hk0 _ (by omega)
          · rw [if_neg s0] at hk0 ⊢
            rw [if_neg s0]
            exact hk0 _ (by omega)
        by_cases e4 : t % 8 = 4
        · rw [if_pos e4]
          refine three _ ?_
          rw [beq_iff_eq]
          omega
        · rw [if_neg e4]
          refine three _ ?_
          rw [beq_iff_eq]
          omega
      by_cases e2 : t % 8 = 2
      · rw [if_pos e2]
        refine two _ ?_
        rw [beq_iff_eq]
        omega
      · rw [if_neg e2]
        refine two _ ?_
        rw [beq_iff_eq]
        omega
    · refine ⟨2, fun k hk => ?_⟩
      obtain ⟨k, rfl⟩ : ∃ m, k = m + 2 := ⟨k - 2, by omega⟩
      rw [List.drop_of_length_le (by simp; omega), List.foldl_nil, mkFin]
      simp only [canopylaw3_Make.l0, canopylaw3_Make.j1, if_neg c1, Bool.false_eq_true, if_false]
      split <;> rfl
def makeN (size most : Int) : Int := 1 + size % most
def makeG (size : Int) : Int := 1 + wrap64 (Int.tdiv size 7) % 2
def makeL (l : List SSym) (size : Int) (ns : List Int) (most : Int) : Int × Int × List Int × List Int × List MOpen × List MClose × List MInner := mkFin (makeN size most) (makeG size) (mkAll l (makeN size most) (makeG size) ns)
theorem makeN_in (size : Int) {most : Int} (h : 0 < most) : 1 ≤ makeN size most ∧ makeN size most ≤ most := by
  have := emod_in (a := size) h
  unfold makeN
  omega
theorem makeG_in (size : Int) : 1 ≤ makeG size ∧ makeG size ≤ 2 := by
  have := emod_in (a := wrap64 (Int.tdiv size 7)) (show (0 : Int) < 2 by omega)
  unfold makeG
  omega
theorem make_eq {l : List SSym} (hl : symOk l) (size : Int) (ns : List Int) (most : Int) (hm : 0 < most) (hm2 : most ≤ 100) : ∃ k0, ∀ k, k0 ≤ k → canopylaw3_Make.f k l size ns most = some (makeL l size ns most) := by
  have hN := makeN_in size hm
  have hG := makeG_in size
  obtain ⟨k0, h⟩ := make_loop hl ns (N := makeN size most) (G := makeG size) (by omega) (by omega) (by omega) (by omega) 24 0 (by omega) (by omega) ⟨[], [], [], [], []⟩ ⟨by simp, by simp, by simp, by simp, by simp⟩
  refine ⟨k0, fun k hk => ?_⟩
  unfold canopylaw3_Make.f
  rw [within3_eq (by omega) (by omega), within3_eq (by omega) (by omega)]
  simp only [Option.bind_some]
  rw [show wrap64 (1 + size % most) = makeN size most from wrap_id (by unfold makeN at hN; omega) (by unfold makeN at hN; omega), show wrap64 (1 + wrap64 (Int.tdiv size 7) % 2) = makeG size from wrap_id (by unfold makeG at hG; omega) (by unfold makeG at hG; omega)]
  have := h k hk
  rw [show (0 : Int).toNat = 0 from rfl, List.drop_zero] at this
  exact this
end Go.Proofs.Ytjkhdldgmkkhjaa.P
