/- Words and walks of this claim: LWhole. -/
import Derived.Test.YtejpijgfpbcibaaGreatQSKnown3
import Derived.Test.YtejpijgfpbcibaaGreatQP0Etc
set_option linter.unusedVariables false
set_option linter.unusedSimpArgs false
set_option linter.unnecessarySimpa false
namespace Go.Proofs.YtejpijgfpbcibaaGreat.P
open Go.RowKit Go.Sort Go.Shelf Go.Proofs.YtejpijgfpbcibaaGreatW.PrintWords Go.Proofs.YtejpijgfpbcibaaGreatW.PrintLast Go.Proofs.YtejpijgfpbcibaaGreatW.PrintMore Go.Proofs.YtejpijgfpbcibaaGreat.M
abbrev WSym := S51
structure WR where
 o : List TOpen
 c : List TClose
 i : List TInner
def wCl (p s : Int) : Nat → List TClose → List TClose
 | 0, c => c
 | g + 1, c => wCl p s g c ++ [⟨p, s, (g : Int), p⟩]
def wSym (N G p s k : Int) (r : WR) : WR := if k = 1 then ⟨r.o ++ [⟨p, s, 0, 1⟩], r.c, r.i⟩ else if k = 2 then ⟨r.o, wCl p s (G + 1).toNat r.c, r.i⟩ else ⟨r.o, r.c, r.i ++ [⟨p, s, wrap64 (N - 1)⟩]⟩
def wIn (N G p : Int) (S : List WSym) : Nat → WR → WR
 | 0, r => r
 | s + 1, r => wSym N G p (s : Int) (rd_T51 S (s : Int)).f1 (wIn N G p S s r)
def wOut (N G : Int) (S : List WSym) : Nat → WR
 | 0 => ⟨[], [], []⟩
 | p + 1 => wIn N G (p : Int) S S.length (wOut N G S p)
theorem wCl_len (p s : Int) : ∀ (g : Nat) (c : List TClose), (wCl p s g c).length = c.length + g
 | 0, c => rfl
 | g + 1, c => by show (wCl p s g c ++ [_]).length = _; rw [List.length_append, wCl_len p s g c]; simp; omega
def wLe (r : WR) (n : Nat) : Prop := r.o.length ≤ n ∧ r.c.length ≤ n ∧ r.i.length ≤ n
theorem wSym_len {N G p s k : Int} {r : WR} {n : Nat} (hG : (G + 1).toNat ≤ 3) (h : wLe r n) : wLe (wSym N G p s k r) (n + 3) := by
 unfold wLe at h
 unfold wSym
 split
 ·refine ⟨?_, ?_, ?_⟩ <;> simp <;> omega
 ·split
  ·refine ⟨?_, ?_, ?_⟩ <;> simp [wCl_len] <;> omega
  ·refine ⟨?_, ?_, ?_⟩ <;> simp <;> omega
theorem wIn_len {N G p : Int} {S : List WSym} (hG : (G + 1).toNat ≤ 3) : ∀ (s : Nat) {r : WR} {n : Nat}, wLe r n → wLe (wIn N G p S s r) (n + 3 * s)
 | 0, r, n, h => h
 | s + 1, r, n, h => by have := wSym_len (N := N) (p := p) (s := (s : Int)) (k := (rd_T51 S (s : Int)).f1) hG (wIn_len hG s h (N := N) (p := p) (S := S)); exact this
theorem wOut_len {N G : Int} {S : List WSym} (hG : (G + 1).toNat ≤ 3) (hS : S.length ≤ 7) : ∀ p : Nat, wLe (wOut N G S p) (21 * p)
 | 0 => ⟨Nat.zero_le _, Nat.zero_le _, Nat.zero_le _⟩
 | p + 1 => by
  have h := wIn_len (N := N) (p := (p : Int)) (S := S) hG S.length (wOut_len (N := N) hG hS p)
  unfold wLe at h ⊢
  show (wIn N G (p : Int) S S.length (wOut N G S p)).o.length ≤ _ ∧ (wIn N G (p : Int) S S.length (wOut N G S p)).c.length ≤ _ ∧ (wIn N G (p : Int) S S.length (wOut N G S p)).i.length ≤ _
  omega
def wChk (S : List WSym) (N G d : Int) : Bool :=
 let r := wOut N G S N.toNat
 (S.length ≤ 7 && 0 < r.o.length && 0 < r.c.length && 0 < r.i.length) && (auto_Whole.f S N G [0] [] r.o r.c r.i == some true) && (auto_Single.f S N G [0] [] r.o r.c r.i == some true) &&
  (if d = 0 then auto_Whole.f S N G [0] [] (r.o.drop 1) r.c r.i == some false else if d = 1 then auto_Whole.f S N G [0] [] r.o (r.c.take (r.c.length - 1)) r.i == some false else auto_Whole.f S N G [0] [] r.o r.c (r.i.drop 1) == some false)
def wSyms : List WSym := [⟨⟨#[97]⟩, 1⟩, ⟨⟨#[97]⟩, 2⟩, ⟨⟨#[98]⟩, 3⟩, ⟨⟨#[99]⟩, 1⟩, ⟨⟨#[99]⟩, 2⟩, ⟨⟨#[100]⟩, 3⟩, ⟨⟨#[120]⟩, 2⟩]
def wSix : List (List WSym) := [[⟨⟨#[98]⟩, 3⟩, ⟨⟨#[97]⟩, 2⟩, ⟨⟨#[97]⟩, 1⟩], wSyms.take 3, wSyms.take 4, wSyms.take 5, wSyms.take 6, wSyms.take 7]
theorem wChk_all : (wSix.all fun S => [1, 2, 3].all fun N => [1, 2].all fun G => [0, 1, 2].all fun d => wChk S N G d) = true := by kernel_rfl
theorem within_lt {a n : Int} (hn : 0 < n) (hn2 : n < 1000) : ∃ t : Int, canopylaw3_within.f a n = some t ∧ 0 ≤ t ∧ t < n := by
 unfold canopylaw3_within.f
 rw [if_neg (by omega)]
 have h1 := Int.tmod_lt_of_pos a hn
 have h2 := Int.lt_tmod_of_pos a hn
 split
 ·refine ⟨_, rfl, ?_, ?_⟩ <;> unfold wrap64 <;> omega
 ·exact ⟨_, rfl, by omega, h1⟩
theorem within_lt1 {a n : Int} (hn : 0 < n) (hn2 : n < 1000) : ∃ t : Int, canopylaw1_within.f a n = some t ∧ 0 ≤ t ∧ t < n := within_lt (a := a) hn hn2
theorem syms_six (a : Int) : ∃ S ∈ wSix, canopylaw1_Syms.f a [] = some S := by
 obtain ⟨t5, e5, h0, h1⟩ := within_lt1 (a := a) (n := 5) (by decide) (by decide)
 obtain ⟨t7, e7, _, _⟩ := within_lt1 (a := a) (n := 7) (by decide) (by decide)
 obtain ⟨t11, e11, _, _⟩ := within_lt1 (a := a) (n := 11) (by decide) (by decide)
 unfold canopylaw1_Syms.f
 rw [e5, e7, e11]
 simp only [Option.bind_some]
 by_cases c7 : t7 = 1
 ·rw [if_pos c7]
  exact ⟨wSix.getD 0 [], List.mem_of_getElem? (l := wSix) (i := 0) rfl, by kernel_rfl⟩
 ·rw [if_neg c7]
  have hc : t5 = 0 ∨ t5 = 1 ∨ t5 = 2 ∨ t5 = 3 ∨ t5 = 4 := by omega
  clear e5 e7 e11 h0 h1
  by_cases c11 : t11 = 2
  ·rw [if_pos c11]
   rcases hc with rfl | rfl | rfl | rfl | rfl
   ·exact ⟨wSix.getD 1 [], List.mem_of_getElem? (l := wSix) (i := 1) rfl, by kernel_rfl⟩
   ·exact ⟨wSix.getD 2 [], List.mem_of_getElem? (l := wSix) (i := 2) rfl, by kernel_rfl⟩
   ·exact ⟨wSix.getD 3 [], List.mem_of_getElem? (l := wSix) (i := 3) rfl, by kernel_rfl⟩
   ·exact ⟨wSix.getD 4 [], List.mem_of_getElem? (l := wSix) (i := 4) rfl, by kernel_rfl⟩
   ·exact ⟨wSix.getD 5 [], List.mem_of_getElem? (l := wSix) (i := 5) rfl, by kernel_rfl⟩
  ·rw [if_neg c11]
   rcases hc with rfl | rfl | rfl | rfl | rfl
   ·exact ⟨wSix.getD 1 [], List.mem_of_getElem? (l := wSix) (i := 1) rfl, by kernel_rfl⟩
   ·exact ⟨wSix.getD 2 [], List.mem_of_getElem? (l := wSix) (i := 2) rfl, by kernel_rfl⟩
   ·exact ⟨wSix.getD 3 [], List.mem_of_getElem? (l := wSix) (i := 3) rfl, by kernel_rfl⟩
   ·exact ⟨wSix.getD 4 [], List.mem_of_getElem? (l := wSix) (i := 4) rfl, by kernel_rfl⟩
   ·exact ⟨wSix.getD 5 [], List.mem_of_getElem? (l := wSix) (i := 5) rfl, by kernel_rfl⟩
theorem wChk_at {S : List WSym} (hS : S ∈ wSix) {t u d : Int} (t0 : 0 ≤ t) (t1 : t < 3) (u0 : 0 ≤ u) (u1 : u < 2) (d0 : 0 ≤ d) (d1 : d < 3) : wChk S (1 + t) (1 + u) d = true := by
 have h := List.all_eq_true.1 wChk_all S hS
 have h2 := List.all_eq_true.1 h (1 + t) (by have : t = 0 ∨ t = 1 ∨ t = 2 := by omega
                                             rcases this with rfl | rfl | rfl <;> decide)
 have h3 := List.all_eq_true.1 h2 (1 + u) (by have : u = 0 ∨ u = 1 := by omega
                                              rcases this with rfl | rfl <;> decide)
 exact List.all_eq_true.1 h3 d (by have : d = 0 ∨ d = 1 ∨ d = 2 := by omega
                                   rcases this with rfl | rfl | rfl <;> decide)
theorem R_one (w : World) (x : Int) : Kd.R (Kd.int .i64) 3 (w.alloc (.cells #[.int .i64 x] 3)) w.heap.size (fun k => some k = (Value.slice (some ⟨w.heap.size, 0, none⟩) 1 1).ownBlock) (.slice (some ⟨w.heap.size, 0, none⟩) 1 1) [x] :=
 ⟨fun k hk => hk.symm, [.int .i64 x], World.ownsRow_lit (base := w.heap.size) (e := 3) (size := 1) w #[.int .i64 x] 1 (Nat.le_refl _) (by decide) rfl, Reps.one (show Kd.M (Kd.int .i64) _ _ _ x [.int .i64 x] from rfl) (Reps.none _ _)⟩
def canopylaw3_AutoWhole.Pure : Prop := True
set_option maxHeartbeats 16000000 in
set_option maxRecDepth 100000 in
theorem whole_walk (a0 a1 a2 : Int) (w : World) :
 Calls Tryz.prog 6 #[.int .i64 a0, .int .i64 a1, .int .i64 a2] w fun e w' => e = .returned (.bool true) ∧ Below w.heap.size w w' := by
 obtain ⟨S, hS6, hSf⟩ := syms_six a0
 obtain ⟨t, ht, t0, t1⟩ := within_lt (a := a1) (n := 3) (by decide) (by decide)
 obtain ⟨u, hu, u0, u1⟩ := within_lt (a := wrap64 (Int.tdiv a1 3)) (n := 2) (by decide) (by decide)
 obtain ⟨d, hd, d0, d1⟩ := within_lt (a := a2) (n := 3) (by decide) (by decide)
 have hchk := wChk_at hS6 t0 t1 u0 u1 d0 d1
 obtain ⟨N, hN⟩ : ∃ N, N = 1 + t := ⟨_, rfl⟩
 obtain ⟨G, hG⟩ : ∃ G, G = 1 + u := ⟨_, rfl⟩
 rw [← hN, ← hG] at hchk
 have hwN : wrap64 (1 + t) = N := by rw [hN]; unfold wrap64; omega
 have hwG : wrap64 (1 + u) = G := by rw [hG]; unfold wrap64; omega
 have HN := Aside0.mk (And.intro hwN (And.intro hwG (show 1 ≤ N ∧ N ≤ 3 ∧ 1 ≤ G ∧ G ≤ 2 by omega)))
 obtain ⟨n, hn⟩ : ∃ n : Nat, (n : Int) = N := ⟨N.toNat, by omega⟩
 obtain ⟨g, hg⟩ : ∃ g : Nat, (g : Int) = G := ⟨G.toNat, by omega⟩
 unfold wChk at hchk
 simp only [Bool.and_eq_true, decide_eq_true_eq, beq_iff_eq] at hchk
 obtain ⟨⟨⟨⟨⟨⟨c1, c2⟩, c3⟩, c4⟩, c5⟩, c6⟩, c7⟩ := hchk
 have e1 : N.toNat = n := by omega
 rw [e1] at c2 c3 c4 c5 c6 c7
 have HF := Aside0.mk (And.intro ht (And.intro hu (And.intro hd hSf)))
 have HC := Aside0.mk (And.intro c5 (And.intro c6 c7))
 have HP := Aside0.mk (And.intro c2 (And.intro c3 c4))
 have HD : Aside0 (d = 0 ∨ d = 1 ∨ d = 2) := ⟨by omega⟩
 have HS7 := Aside0.mk c1
 have HW : Aside0 (∀ p : Nat, wLe (wOut N G S p) (21 * p)) := ⟨wOut_len (by have := HN.out.2.2; omega) c1⟩
 have HWI : Aside0 (∀ (p : Nat) (s : Nat), wLe (wIn N G (p : Int) S s (wOut N G S p)) (21 * p + 3 * s)) := ⟨fun p s => wIn_len (by have := HN.out.2.2; omega) s (HW.out p)⟩
 have Hn := Aside0.mk (And.intro hn hg)
 have Hn3 : Aside0 (n ≤ 3 ∧ g ≤ 2) := ⟨by have := HN.out.2.2; omega⟩
 clear ht hu hd hSf t0 t1 u0 u1 d0 d1 hN hG hwN hwG hn hg c1 c2 c3 c4 c5 c6 c7 e1 hS6
 go_enter Tryz.func6, Tryz.ntmps6
 go_wp2_with fail
 refine (canopylaw3_known.calls true _ rfl).mono ?_
 rintro e w1 ⟨rfl, hb1⟩
 have HB1 := Aside0.mk hb1
 clear hb1
 go_wp2_with fail
 refine (canopylaw1_Syms.calls a0 none 0 [] S _ (none_row _ _) (Nat.le_refl _) HF.out.2.2.2).mono ?_
 rintro e w2 ⟨v1, rfl, hr1, hb2⟩
 obtain ⟨AS, cS, eS, lS, gS⟩ := Kd.R_reads hr1
 subst eS
 have HS := Aside0.mk gS
 have LS : Aside0 (S.length ≤ cS) := ⟨lS⟩
 have HB2 := Aside0.mk (below_then HB1.out HB1.out.size hb2)
 clear hr1 hb2 gS lS HB1
 go_wp2_with fail
 refine (canopylaw3_within.calls a1 3 t _ HF.out.1).mono ?_
 rintro e w3 ⟨rfl, hd3⟩
 have HB3 := Aside0.mk (below_then HB2.out HB2.out.size hd3.below)
 have HS3 := Aside0.mk (Kd.C_below HS.out hd3.below)
 clear hd3 HB2 HS
 go_wp2_with fail
 refine (canopylaw3_within.calls _ 2 u _ HF.out.2.1).mono ?_
 rintro e w4 ⟨rfl, hd4⟩
 have HB4 := Aside0.mk (below_then HB3.out HB3.out.size hd4.below)
 have HS4 := Aside0.mk (Kd.C_below HS3.out hd4.below)
 clear hd4 HB3 HS3
 go_upto_region 5 with (fail)
 rw [HN.out.1, HN.out.2.1]
 have HO : Aside0 (OutR ((w4.alloc (.cells #[.int .i64 0] 3)).alloc (.cells #[.int .i64 N, .int .i64 G, .slice (some ⟨w4.heap.size, 0, none⟩) 1 1, .slice none 0 0, .slice none 0 0, .slice none 0 0, .slice none 0 0] 30)) w4 (w4.heap.size + 1) (.int .i64 N) (.int .i64 G) (.slice (some ⟨w4.heap.size, 0, none⟩) 1 1) (Value.slice none 0 0) (Value.slice none 0 0) (Value.slice none 0 0) (Value.slice none 0 0) [0] [] [] [] []) := ⟨⟨below_alloc (below_alloc (Below.refl _ _) _) _, Nat.le_succ _, blk_newAt _ (by simp only [size_alloc]), Kd.R_alloc (R_one w4 0) _, Kd.R_nil _ _ _ _ _, Kd.R_nil _ _ _ _ _, Kd.R_nil _ _ _ _ _, Kd.R_nil _ _ _ _ _, fun k h => by intro h2; cases h2⟩⟩
 obtain ⟨wq, hwq⟩ : ∃ wq : World, wq = ((w4.alloc (.cells #[.int .i64 0] 3)).alloc (.cells #[.int .i64 N, .int .i64 G, .slice (some ⟨w4.heap.size, 0, none⟩) 1 1, .slice none 0 0, .slice none 0 0, .slice none 0 0, .slice none 0 0] 30)) := ⟨_, rfl⟩
 obtain ⟨go, hgo⟩ : ∃ go : Nat, go = w4.heap.size + 1 := ⟨_, rfl⟩
 obtain ⟨vI, hvI⟩ : ∃ vI : Value, vI = .slice (some ⟨w4.heap.size, 0, none⟩) 1 1 := ⟨_, rfl⟩
 rw [← hwq, ← hgo, ← hvI] at HO
 rw [← hwq, ← hgo]
 have HVI := Aside0.mk hvI
 clear hwq hgo hvI
 obtain ⟨wO, hwO⟩ : ∃ wO : World, wO = w4 := ⟨_, rfl⟩
 rw [← hwO] at HO HB4 HS4 HVI
 clear hwO
 try clear w3
 try clear w2
 try clear w1
 go_wp2
 go_loopg [9] n (fun gk v9 w' => ∃ (p : Nat) (v4 v5 v6 : Value), v9 = .int .i64 (p : Int) ∧ Aside0 (p ≤ n ∧ n - p ≤ gk) ∧ Aside0 (OutR w' wO go (.int .i64 N) (.int .i64 G) vI (Value.slice none 0 0) v4 v5 v6 [0] [] (wOut N G S p).o (wOut N G S p).c (wOut N G S p).i))
 case atStart => exact ⟨0, (Value.slice none 0 0), (Value.slice none 0 0), (Value.slice none 0 0), rfl, ⟨by omega, by omega⟩, HO⟩
 case round =>
  clear HO
  obtain ⟨p, v4, v5, v6, rfl, Hp, HO⟩ := hrel
  clear wq
  obtain ⟨wq, rfl⟩ : ∃ wq : World, wq = wr := ⟨_, rfl⟩
  have b0 := (blk_cell HO.out.t 0).trans (show (#[.int .i64 N, .int .i64 G, vI, (Value.slice none 0 0), v4, v5, v6] : Array Value)[0]? = some (.int .i64 N) from rfl)
  by_cases hlt : ¬ p < n
  ·have e4 : p = n := by have := Hp.out; omega
   subst e4
   have t1 := eq_false (show ¬ (p : Int) < N by have := Hn.out.1; omega)
   clear hlt Hp
   have HLN := Aside0.mk (HW.out p)
   have HP1 := Aside0.mk HP.out
   generalize wOut N G S p = r at HO HC HP1 HLN
   clear HW HWI HP
   have h4 := HO.out.r4
   have h5 := HO.out.r5
   have h6 := HO.out.r6
   obtain ⟨A4, c4, rfl⟩ := Kd.R_slice h4
   obtain ⟨A5, c5, rfl⟩ := Kd.R_slice h5
   obtain ⟨A6, c6, rfl⟩ := Kd.R_slice h6
   have hvI := HVI.out
   subst hvI
   clear HVI h4 h5 h6 b0
   obtain ⟨b0, b1, b2, b3, b4, b5, b6, _⟩ := auto_cells HO.out.t
   go_wp2_with fail
   refine (canopylaw3_within.calls a2 3 d _ HF.out.2.2.1).mono ?_
   rintro e w6 ⟨rfl, hd6⟩
   have HB6 : Aside0 (Below wq.heap.size wq w6) := ⟨below_then (below_alloc (Below.refl _ _) _) (below_alloc (Below.refl _ _) _).size hd6.below⟩
   have HY6 : Aside0 (w6.heap[wq.heap.size]? = some (.cells #[.int .i64 N, .int .i64 G, .slice (some ⟨wO.heap.size, 0, none⟩) 1 1, .slice none 0 0, .slice A4 r.o.length c4, .slice A5 r.c.length c5, .slice A6 r.i.length c6] 30 (0, 0))) := ⟨blk_below (blk_newAt _ rfl) hd6.below⟩
   clear hd6 b0 b1 b2 b3 b4 b5 b6 t1
   have HO6 := Aside0.mk (HO.out.below HB6.out)
   obtain ⟨gb, hgb⟩ : ∃ gb, gb = wq.heap.size := ⟨_, rfl⟩
   rw [← hgb] at HY6 ⊢
   have HGB := Aside0.mk hgb
   clear hgb
   obtain ⟨b0, b1, b2, b3, b4, b5, b6, _⟩ := auto_cells HO6.out.t
   obtain ⟨y0, y1, y2, y3, y4, y5, y6, _⟩ := auto_cells HY6.out
   have f4 := blk_frozen HY6.out 4
   have f5 := blk_frozen HY6.out 5
   have f6 := blk_frozen HY6.out 6
   rcases HD.out with rfl | rfl | rfl
   ·have q1 : (1 : Int) ≤ ((r.o.length : Nat) : Int) := by have := HP1.out; omega
    have t1 := eq_true (show ((r.o.length : Nat) : Int) > 0 by omega)
    have t2 := decide_eq_true (show ((r.o.length : Nat) : Int) > 0 by omega)
    obtain ⟨i0, hi0, _, hsz0, _⟩ := info_parts infoOpen
    have hC0 := (Kd.R_reads' HO6.out.r4).2.2
    have hroom := (Kd.R_reads' HO6.out.r4).2.1
    have hcut := cut_from (P := Tryz.prog) 26 36 .i64 Tryz.underlying26 hi0 4 hsz0 A4 r.o.length c4 1 (by decide) q1
    rw [show ((1 : Int).toNat) = 1 from rfl] at hcut
    obtain ⟨dd, hdd⟩ : ∃ dd, dd = r.o.drop 1 := ⟨_, rfl⟩
    rw [show r.o.length - 1 = dd.length by rw [hdd, List.length_drop]] at hcut
    obtain ⟨Ad, hAd⟩ : ∃ A1, A1 = (if c4 = 1 then A4 else (A4 : Option Addr).map (·.add (1 * 4))) := ⟨_, rfl⟩
    rw [← hAd] at hcut
    have HAd := Aside0.mk hAd
    have HRM := Aside0.mk hroom
    obtain ⟨cd, hcd⟩ : ∃ c1, c1 = c4 - 1 := ⟨_, rfl⟩
    rw [← hcd] at hcut
    have HCD : Aside0 (dd.length ≤ cd) := ⟨by rw [hcd, hdd, List.length_drop]; omega⟩
    have HDD : Aside0 (r.o.drop 1 = dd) := ⟨hdd.symm⟩
    clear hAd hcd hdd hi0 hsz0 hC0 hroom
    go_upto_region 29 with (fail)
    skip
    have HB7 : Aside0 (Below wq.heap.size wq (w6.setCell ⟨gb, 4, none⟩ (.slice Ad dd.length cd))) := ⟨HB6.out.setCell (by rw [HGB.out]; exact Nat.le_refl _) _⟩
    have HY7 : Aside0 ((w6.setCell ⟨gb, 4, none⟩ (.slice Ad dd.length cd)).heap[gb]? = some (.cells #[.int .i64 N, .int .i64 G, .slice (some ⟨wO.heap.size, 0, none⟩) 1 1, .slice none 0 0, .slice Ad dd.length cd, .slice A5 r.c.length c5, .slice A6 r.i.length c6] 30 (0, 0))) := ⟨blk_put HY6.out 4 (.slice Ad dd.length cd) rfl⟩
    obtain ⟨w7, hw7⟩ : ∃ w7 : World, w7 = (w6.setCell ⟨gb, 4, none⟩ (.slice Ad dd.length cd)) := ⟨_, rfl⟩
    rw [← hw7] at HB7 HY7 ⊢
    clear hw7 b0 b1 b2 b3 b4 b5 b6 y0 y1 y2 y3 y4 y5 y6 f4 f5 f6 HO6 HY6 HB6 hcut t1 t2 q1
    have HO7 := Aside0.mk (HO.out.below HB7.out)
    have HD7 : Aside0 (Kd.C k36 w7 Ad dd.length dd) := ⟨by have h := Kd.C_drop (m := 1) (c := c4) (Kd.R_reads' HO7.out.r4).2.2 (by have := HP1.out; omega) HRM.out; rw [HDD.out] at h; rw [HAd.out]; exact h⟩
    obtain ⟨b0, b1, b2, b3, b4, b5, b6, _⟩ := auto_cells HO7.out.t
    go_wp2_with fail
    refine (auto_Whole.calls AS cS S N G (some ⟨wO.heap.size, 0, none⟩) 1 [0] none 0 [] A4 c4 r.o A5 c5 r.c A6 c6 r.i true _ (Kd.C_below HS4.out HO7.out.b) LS.out (Kd.R_reads' HO7.out.r2).2.2 (Kd.R_reads' HO7.out.r2).2.1 (Kd.R_reads' HO7.out.r3).2.2 (Kd.R_reads' HO7.out.r3).2.1 (Kd.R_reads' HO7.out.r4).2.2 (Kd.R_reads' HO7.out.r4).2.1 (Kd.R_reads' HO7.out.r5).2.2 (Kd.R_reads' HO7.out.r5).2.1 (Kd.R_reads' HO7.out.r6).2.2 (Kd.R_reads' HO7.out.r6).2.1 HC.out.1).mono ?_
    rintro e w8 ⟨rfl, hb8⟩
    have HO8 := Aside0.mk (HO7.out.below hb8)
    have HY8 := Aside0.mk (blk_below HY7.out hb8)
    have HD8 := Aside0.mk (Kd.C_below HD7.out hb8)
    clear hb8 HO7 HY7 HD7 b0 b1 b2 b3 b4 b5 b6
    obtain ⟨b0, b1, b2, b3, b4, b5, b6, _⟩ := auto_cells HO8.out.t
    go_wp2_with fail
    refine (auto_Single.calls AS cS S N G (some ⟨wO.heap.size, 0, none⟩) 1 [0] none 0 [] A4 c4 r.o A5 c5 r.c A6 c6 r.i true _ (Kd.C_below HS4.out HO8.out.b) LS.out (Kd.R_reads' HO8.out.r2).2.2 (Kd.R_reads' HO8.out.r2).2.1 (Kd.R_reads' HO8.out.r3).2.2 (Kd.R_reads' HO8.out.r3).2.1 (Kd.R_reads' HO8.out.r4).2.2 (Kd.R_reads' HO8.out.r4).2.1 (Kd.R_reads' HO8.out.r5).2.2 (Kd.R_reads' HO8.out.r5).2.1 (Kd.R_reads' HO8.out.r6).2.2 (Kd.R_reads' HO8.out.r6).2.1 HC.out.2.1).mono ?_
    rintro e w9 ⟨rfl, hb9⟩
    have HO9 := Aside0.mk (HO8.out.below hb9)
    have HY9 := Aside0.mk (blk_below HY8.out hb9)
    have HD9 := Aside0.mk (Kd.C_below HD8.out hb9)
    clear hb9 HO8 HY8 HD8 b0 b1 b2 b3 b4 b5 b6
    obtain ⟨y0, y1, y2, y3, y4, y5, y6, _⟩ := auto_cells HY9.out
    go_wp2_with fail
    refine (auto_Whole.calls AS cS S N G (some ⟨wO.heap.size, 0, none⟩) 1 [0] none 0 [] Ad cd dd A5 c5 r.c A6 c6 r.i false _ (Kd.C_below HS4.out HO9.out.b) LS.out (Kd.R_reads' HO9.out.r2).2.2 (Kd.R_reads' HO9.out.r2).2.1 (Kd.R_reads' HO9.out.r3).2.2 (Kd.R_reads' HO9.out.r3).2.1 HD9.out HCD.out (Kd.R_reads' HO9.out.r5).2.2 (Kd.R_reads' HO9.out.r5).2.1 (Kd.R_reads' HO9.out.r6).2.2 (Kd.R_reads' HO9.out.r6).2.1 (by have h := HC.out.2.2; rw [if_pos trivial, beq_iff_eq] at h; rw [← HDD.out]; exact h)).mono ?_
    rintro e w10 ⟨rfl, hb10⟩
    have HBe : Aside0 (Below w.heap.size w w10) := ⟨below_then (below_then HB4.out HB4.out.size HO9.out.b) (below_then HB4.out HB4.out.size HO9.out.b).size hb10⟩
    clear hb10 y0 y1 y2 y3 y4 y5 y6
    go_wp2
    go_ret
    exact ⟨rfl, HBe.out⟩
   ·have q1 : (1 : Int) ≤ ((r.c.length : Nat) : Int) := by have := HP1.out; omega
    have t1 := eq_true (show ((r.c.length : Nat) : Int) > 0 by omega)
    have t2 := decide_eq_true (show ((r.c.length : Nat) : Int) > 0 by omega)
    obtain ⟨i0, hi0, _, hsz0, _⟩ := info_parts infoClose
    have hC0 := (Kd.R_reads' HO6.out.r5).2.2
    have hroom := (Kd.R_reads' HO6.out.r5).2.1
    obtain ⟨m, hm⟩ : ∃ m : Int, wrap64 (((r.c.length : Nat) : Int) - 1) = m ∧ 0 ≤ m ∧ m ≤ ((r.c.length : Nat) : Int) ∧ m.toNat = r.c.length - 1 := ⟨((r.c.length : Nat) : Int) - 1, by have h1 := HLN.out; have h2 := Hn3.out; unfold wLe at h1; unfold wrap64; omega, by omega, by omega, by omega⟩
    obtain ⟨hm1, hm2, hm3, hm4⟩ := hm
    have hcut := cut_to (P := Tryz.prog) 27 38 .i64 Tryz.underlying27 hi0 A5 r.c.length c5 m hm2 hm3 hroom
    obtain ⟨dd, hdd⟩ : ∃ dd, dd = r.c.take m.toNat := ⟨_, rfl⟩
    rw [show m.toNat = dd.length by rw [hdd, List.length_take]; omega] at hcut
    have HCD : Aside0 (dd.length ≤ c5) := ⟨by rw [hdd, List.length_take]; omega⟩
    have HDD : Aside0 (r.c.take (r.c.length - 1) = dd) := ⟨by rw [hdd, hm4]⟩
    clear hdd hm4 hi0 hsz0 hC0 hroom
    go_upto_region 29 with (fail)
    skip
    have HB7 : Aside0 (Below wq.heap.size wq (w6.setCell ⟨gb, 5, none⟩ (.slice A5 dd.length c5))) := ⟨HB6.out.setCell (by rw [HGB.out]; exact Nat.le_refl _) _⟩
    have HY7 : Aside0 ((w6.setCell ⟨gb, 5, none⟩ (.slice A5 dd.length c5)).heap[gb]? = some (.cells #[.int .i64 N, .int .i64 G, .slice (some ⟨wO.heap.size, 0, none⟩) 1 1, .slice none 0 0, .slice A4 r.o.length c4, .slice A5 dd.length c5, .slice A6 r.i.length c6] 30 (0, 0))) := ⟨blk_put HY6.out 5 (.slice A5 dd.length c5) rfl⟩
    obtain ⟨w7, hw7⟩ : ∃ w7 : World, w7 = (w6.setCell ⟨gb, 5, none⟩ (.slice A5 dd.length c5)) := ⟨_, rfl⟩
    rw [← hw7] at HB7 HY7 ⊢
    clear hw7 b0 b1 b2 b3 b4 b5 b6 y0 y1 y2 y3 y4 y5 y6 f4 f5 f6 HO6 HY6 HB6 hcut t1 t2 q1
    have HO7 := Aside0.mk (HO.out.below HB7.out)
    have HD7 : Aside0 (Kd.C k38 w7 A5 dd.length dd) := ⟨by have h := Kd.C_take (m := r.c.length - 1) (Kd.R_reads' HO7.out.r5).2.2 (Nat.sub_le _ _); rw [HDD.out] at h; exact h⟩
    clear hm1 hm2 hm3
    obtain ⟨b0, b1, b2, b3, b4, b5, b6, _⟩ := auto_cells HO7.out.t
    go_wp2_with fail
    refine (auto_Whole.calls AS cS S N G (some ⟨wO.heap.size, 0, none⟩) 1 [0] none 0 [] A4 c4 r.o A5 c5 r.c A6 c6 r.i true _ (Kd.C_below HS4.out HO7.out.b) LS.out (Kd.R_reads' HO7.out.r2).2.2 (Kd.R_reads' HO7.out.r2).2.1 (Kd.R_reads' HO7.out.r3).2.2 (Kd.R_reads' HO7.out.r3).2.1 (Kd.R_reads' HO7.out.r4).2.2 (Kd.R_reads' HO7.out.r4).2.1 (Kd.R_reads' HO7.out.r5).2.2 (Kd.R_reads' HO7.out.r5).2.1 (Kd.R_reads' HO7.out.r6).2.2 (Kd.R_reads' HO7.out.r6).2.1 HC.out.1).mono ?_
    rintro e w8 ⟨rfl, hb8⟩
    have HO8 := Aside0.mk (HO7.out.below hb8)
    have HY8 := Aside0.mk (blk_below HY7.out hb8)
    have HD8 := Aside0.mk (Kd.C_below HD7.out hb8)
    clear hb8 HO7 HY7 HD7 b0 b1 b2 b3 b4 b5 b6
    obtain ⟨b0, b1, b2, b3, b4, b5, b6, _⟩ := auto_cells HO8.out.t
    go_wp2_with fail
    refine (auto_Single.calls AS cS S N G (some ⟨wO.heap.size, 0, none⟩) 1 [0] none 0 [] A4 c4 r.o A5 c5 r.c A6 c6 r.i true _ (Kd.C_below HS4.out HO8.out.b) LS.out (Kd.R_reads' HO8.out.r2).2.2 (Kd.R_reads' HO8.out.r2).2.1 (Kd.R_reads' HO8.out.r3).2.2 (Kd.R_reads' HO8.out.r3).2.1 (Kd.R_reads' HO8.out.r4).2.2 (Kd.R_reads' HO8.out.r4).2.1 (Kd.R_reads' HO8.out.r5).2.2 (Kd.R_reads' HO8.out.r5).2.1 (Kd.R_reads' HO8.out.r6).2.2 (Kd.R_reads' HO8.out.r6).2.1 HC.out.2.1).mono ?_
    rintro e w9 ⟨rfl, hb9⟩
    have HO9 := Aside0.mk (HO8.out.below hb9)
    have HY9 := Aside0.mk (blk_below HY8.out hb9)
    have HD9 := Aside0.mk (Kd.C_below HD8.out hb9)
    clear hb9 HO8 HY8 HD8 b0 b1 b2 b3 b4 b5 b6
    obtain ⟨y0, y1, y2, y3, y4, y5, y6, _⟩ := auto_cells HY9.out
    go_wp2_with fail
    refine (auto_Whole.calls AS cS S N G (some ⟨wO.heap.size, 0, none⟩) 1 [0] none 0 [] A4 c4 r.o A5 c5 dd A6 c6 r.i false _ (Kd.C_below HS4.out HO9.out.b) LS.out (Kd.R_reads' HO9.out.r2).2.2 (Kd.R_reads' HO9.out.r2).2.1 (Kd.R_reads' HO9.out.r3).2.2 (Kd.R_reads' HO9.out.r3).2.1 (Kd.R_reads' HO9.out.r4).2.2 (Kd.R_reads' HO9.out.r4).2.1 HD9.out HCD.out (Kd.R_reads' HO9.out.r6).2.2 (Kd.R_reads' HO9.out.r6).2.1 (by have h := HC.out.2.2; rw [if_neg (by decide), if_pos trivial, beq_iff_eq] at h; rw [← HDD.out]; exact h)).mono ?_
    rintro e w10 ⟨rfl, hb10⟩
    have HBe : Aside0 (Below w.heap.size w w10) := ⟨below_then (below_then HB4.out HB4.out.size HO9.out.b) (below_then HB4.out HB4.out.size HO9.out.b).size hb10⟩
    clear hb10 y0 y1 y2 y3 y4 y5 y6
    go_wp2
    go_ret
    exact ⟨rfl, HBe.out⟩
   ·have q1 : (1 : Int) ≤ ((r.i.length : Nat) : Int) := by have := HP1.out; omega
    have t1 := eq_true (show ((r.i.length : Nat) : Int) > 0 by omega)
    have t2 := decide_eq_true (show ((r.i.length : Nat) : Int) > 0 by omega)
    obtain ⟨i0, hi0, _, hsz0, _⟩ := info_parts infoInner
    have hC0 := (Kd.R_reads' HO6.out.r6).2.2
    have hroom := (Kd.R_reads' HO6.out.r6).2.1
    have hcut := cut_from (P := Tryz.prog) 28 40 .i64 Tryz.underlying28 hi0 3 hsz0 A6 r.i.length c6 1 (by decide) q1
    rw [show ((1 : Int).toNat) = 1 from rfl] at hcut
    obtain ⟨dd, hdd⟩ : ∃ dd, dd = r.i.drop 1 := ⟨_, rfl⟩
    rw [show r.i.length - 1 = dd.length by rw [hdd, List.length_drop]] at hcut
    obtain ⟨Ad, hAd⟩ : ∃ A1, A1 = (if c6 = 1 then A6 else (A6 : Option Addr).map (·.add (1 * 3))) := ⟨_, rfl⟩
    rw [← hAd] at hcut
    have HAd := Aside0.mk hAd
    have HRM := Aside0.mk hroom
    obtain ⟨cd, hcd⟩ : ∃ c1, c1 = c6 - 1 := ⟨_, rfl⟩
    rw [← hcd] at hcut
    have HCD : Aside0 (dd.length ≤ cd) := ⟨by rw [hcd, hdd, List.length_drop]; omega⟩
    have HDD : Aside0 (r.i.drop 1 = dd) := ⟨hdd.symm⟩
    clear hAd hcd hdd hi0 hsz0 hC0 hroom
    go_upto_region 29 with (fail)
    skip
    have HB7 : Aside0 (Below wq.heap.size wq (w6.setCell ⟨gb, 6, none⟩ (.slice Ad dd.length cd))) := ⟨HB6.out.setCell (by rw [HGB.out]; exact Nat.le_refl _) _⟩
    have HY7 : Aside0 ((w6.setCell ⟨gb, 6, none⟩ (.slice Ad dd.length cd)).heap[gb]? = some (.cells #[.int .i64 N, .int .i64 G, .slice (some ⟨wO.heap.size, 0, none⟩) 1 1, .slice none 0 0, .slice A4 r.o.length c4, .slice A5 r.c.length c5, .slice Ad dd.length cd] 30 (0, 0))) := ⟨blk_put HY6.out 6 (.slice Ad dd.length cd) rfl⟩
    obtain ⟨w7, hw7⟩ : ∃ w7 : World, w7 = (w6.setCell ⟨gb, 6, none⟩ (.slice Ad dd.length cd)) := ⟨_, rfl⟩
    rw [← hw7] at HB7 HY7 ⊢
    clear hw7 b0 b1 b2 b3 b4 b5 b6 y0 y1 y2 y3 y4 y5 y6 f4 f5 f6 HO6 HY6 HB6 hcut t1 t2 q1
    have HO7 := Aside0.mk (HO.out.below HB7.out)
    have HD7 : Aside0 (Kd.C k40 w7 Ad dd.length dd) := ⟨by have h := Kd.C_drop (m := 1) (c := c6) (Kd.R_reads' HO7.out.r6).2.2 (by have := HP1.out; omega) HRM.out; rw [HDD.out] at h; rw [HAd.out]; exact h⟩
    obtain ⟨b0, b1, b2, b3, b4, b5, b6, _⟩ := auto_cells HO7.out.t
    go_wp2_with fail
    refine (auto_Whole.calls AS cS S N G (some ⟨wO.heap.size, 0, none⟩) 1 [0] none 0 [] A4 c4 r.o A5 c5 r.c A6 c6 r.i true _ (Kd.C_below HS4.out HO7.out.b) LS.out (Kd.R_reads' HO7.out.r2).2.2 (Kd.R_reads' HO7.out.r2).2.1 (Kd.R_reads' HO7.out.r3).2.2 (Kd.R_reads' HO7.out.r3).2.1 (Kd.R_reads' HO7.out.r4).2.2 (Kd.R_reads' HO7.out.r4).2.1 (Kd.R_reads' HO7.out.r5).2.2 (Kd.R_reads' HO7.out.r5).2.1 (Kd.R_reads' HO7.out.r6).2.2 (Kd.R_reads' HO7.out.r6).2.1 HC.out.1).mono ?_
    rintro e w8 ⟨rfl, hb8⟩
    have HO8 := Aside0.mk (HO7.out.below hb8)
    have HY8 := Aside0.mk (blk_below HY7.out hb8)
    have HD8 := Aside0.mk (Kd.C_below HD7.out hb8)
    clear hb8 HO7 HY7 HD7 b0 b1 b2 b3 b4 b5 b6
    obtain ⟨b0, b1, b2, b3, b4, b5, b6, _⟩ := auto_cells HO8.out.t
    go_wp2_with fail
    refine (auto_Single.calls AS cS S N G (some ⟨wO.heap.size, 0, none⟩) 1 [0] none 0 [] A4 c4 r.o A5 c5 r.c A6 c6 r.i true _ (Kd.C_below HS4.out HO8.out.b) LS.out (Kd.R_reads' HO8.out.r2).2.2 (Kd.R_reads' HO8.out.r2).2.1 (Kd.R_reads' HO8.out.r3).2.2 (Kd.R_reads' HO8.out.r3).2.1 (Kd.R_reads' HO8.out.r4).2.2 (Kd.R_reads' HO8.out.r4).2.1 (Kd.R_reads' HO8.out.r5).2.2 (Kd.R_reads' HO8.out.r5).2.1 (Kd.R_reads' HO8.out.r6).2.2 (Kd.R_reads' HO8.out.r6).2.1 HC.out.2.1).mono ?_
    rintro e w9 ⟨rfl, hb9⟩
    have HO9 := Aside0.mk (HO8.out.below hb9)
    have HY9 := Aside0.mk (blk_below HY8.out hb9)
    have HD9 := Aside0.mk (Kd.C_below HD8.out hb9)
    clear hb9 HO8 HY8 HD8 b0 b1 b2 b3 b4 b5 b6
    obtain ⟨y0, y1, y2, y3, y4, y5, y6, _⟩ := auto_cells HY9.out
    go_wp2_with fail
    refine (auto_Whole.calls AS cS S N G (some ⟨wO.heap.size, 0, none⟩) 1 [0] none 0 [] A4 c4 r.o A5 c5 r.c Ad cd dd false _ (Kd.C_below HS4.out HO9.out.b) LS.out (Kd.R_reads' HO9.out.r2).2.2 (Kd.R_reads' HO9.out.r2).2.1 (Kd.R_reads' HO9.out.r3).2.2 (Kd.R_reads' HO9.out.r3).2.1 (Kd.R_reads' HO9.out.r4).2.2 (Kd.R_reads' HO9.out.r4).2.1 (Kd.R_reads' HO9.out.r5).2.2 (Kd.R_reads' HO9.out.r5).2.1 HD9.out HCD.out (by have h := HC.out.2.2; rw [if_neg (by decide), if_neg (by decide), beq_iff_eq] at h; rw [← HDD.out]; exact h)).mono ?_
    rintro e w10 ⟨rfl, hb10⟩
    have HBe : Aside0 (Below w.heap.size w w10) := ⟨below_then (below_then HB4.out HB4.out.size HO9.out.b) (below_then HB4.out HB4.out.size HO9.out.b).size hb10⟩
    clear hb10 y0 y1 y2 y3 y4 y5 y6
    go_wp2
    go_ret
    exact ⟨rfl, HBe.out⟩
  ·have hlt := Classical.not_not.1 hlt
   have HLT := Aside0.mk hlt
   have t1 := eq_true (show (p : Int) < N by have := Hn.out.1; omega)
   clear hlt
   go_wp2
   clear t1 b0
   go_loopg [10] S.length (fun gk v10 w' => ∃ (s : Nat) (v4 v5 v6 : Value), v10 = .int .i64 (s : Int) ∧ Aside0 (s ≤ S.length ∧ S.length - s ≤ gk) ∧ Aside0 (OutR w' wO go (.int .i64 N) (.int .i64 G) vI (Value.slice none 0 0) v4 v5 v6 [0] [] (wIn N G (p : Int) S s (wOut N G S p)).o (wIn N G (p : Int) S s (wOut N G S p)).c (wIn N G (p : Int) S s (wOut N G S p)).i))
   case atStart => exact ⟨0, v4, v5, v6, rfl, ⟨by omega, by omega⟩, HO⟩
   case round =>
    clear HO
    clear v4 v5 v6
    obtain ⟨s, v4, v5, v6, rfl, Hs, HO⟩ := hrel
    clear wq
    obtain ⟨wq, rfl⟩ : ∃ wq : World, wq = wr := ⟨_, rfl⟩
    by_cases hls : ¬ s < S.length
    ·have e4 : s = S.length := by have := Hs.out; omega
     subst e4
     have t1 := eq_false (show ¬ ((S.length : Nat) : Int) < (S.length : Int) by omega)
     clear hls Hs
     go_wp2
     go_roundg (n - (p + 1))
     case measure => have := Hp.out; have := HLT.out; omega
     case rel => exact ⟨p + 1, v4, v5, v6, by first | rfl | rw [show wrap64 ((p : Int) + 1) = ((p + 1 : Nat) : Int) by have := HLT.out; have := Hn3.out; unfold wrap64; omega], ⟨HLT.out, Nat.le_refl _⟩, HO⟩
    ·have hls := Classical.not_not.1 hls
     have HLS := Aside0.mk hls
     obtain ⟨ad, eA, y0, y1⟩ := at_T51 (Kd.C_below HS4.out HO.out.b) (s : Int) (by omega) (by omega)
     subst eA
     rw [Int.toNat_natCast] at y0 y1
     have t1 := eq_true (show (s : Int) < (S.length : Int) by omega)
     have t2 := eq_true (show (0 : Int) ≤ (s : Int) by omega)
     have HR : Aside0 (wIn N G (p : Int) S (s + 1) (wOut N G S p) = wSym N G (p : Int) (s : Int) (rd_T51 S (s : Int)).f1 (wIn N G (p : Int) S s (wOut N G S p))) := ⟨rfl⟩
     have HLN := Aside0.mk (HWI.out p s)
     generalize (rd_T51 S (s : Int)).f1 = kd at y1 HR
     generalize wIn N G (p : Int) S s (wOut N G S p) = r at HR HO HLN
     clear hls
     by_cases h1 : kd = 1
     ·subst h1
      have b0 := (blk_cell HO.out.t 0).trans (show (#[.int .i64 N, .int .i64 G, vI, (Value.slice none 0 0), v4, v5, v6] : Array Value)[0]? = some (.int .i64 N) from rfl)
      have b4 := (blk_cell HO.out.t 4).trans (show (#[.int .i64 N, .int .i64 G, vI, (Value.slice none 0 0), v4, v5, v6] : Array Value)[4]? = some (v4) from rfl)
      go_wp2_with ((with_reducible refine gate_builtin (b := .append) (xs := #[.tmp 58, .tmp 62]) rfl ?_); at_builtin; go_loud (refine Kd.R_append k36 (w0 := wO) wO.heap.size rfl (.tmp 58) (.tmp 62) 26 36 (.agg #[.int .i64 0, .int .i64 0, .int .i64 0, .int .i64 0]) 32 rfl Tryz.underlying26 infoOpen rfl (by decide) (by decide) v4 r.o (⟨(p : Int), (s : Int), 0, 1⟩) [.int .i64 (p : Int), .int .i64 (s : Int), .int .i64 0, .int .i64 1] (fun k => some k = (v4 : Value).ownBlock ∨ wq.heap.size ≤ k) (fun _ => False) rfl rfl (k36_mkM _ _ _ _) (fun _ h => h.elim) (fun k h => .inr h) (Kd.R_mono HO.out.r4 (fun k h => .inl h)) HO.out.b HO.out.b.size ?ql ?_); (case ql => have h1 := HLN.out; have h2 := HLT.out; have h3 := Hn3.out; have h4 := HLS.out; have h5 := HS7.out; unfold wLe at h1; omega); intro v1 w1 hr1 hb1 hg1 hat1; obtain ⟨A1, m1, k1, rfl⟩ := slice3 hr1; have HO1 := Aside0.mk (HO.out.app4 hr1 hb1 hg1 hat1); have HT1 := Aside0.mk (blk_grown HO.out.t hg1 (Kd.R_ne HO.out.r4 HO.out.t (by decide))); have hc2 := (blk_cell HT1.out 4).trans (show (#[Value.int .i64 N, .int .i64 G, vI, (Value.slice none 0 0), v4, v5, v6] : Array Value)[4]? = some v4 from rfl); have hf2 := blk_frozen HT1.out 4; clear hr1 hb1 hg1 hat1)
      go_wp2
      go_roundg (S.length - (s + 1))
      case measure => have := Hs.out; have := HLS.out; omega
      case rel => exact ⟨s + 1, _, v5, v6, by first | rfl | rw [show wrap64 ((s : Int) + 1) = ((s + 1 : Nat) : Int) by have := HLS.out; have := HS7.out; unfold wrap64; omega], ⟨HLS.out, Nat.le_refl _⟩, ⟨by rw [HR.out, show wSym N G (p : Int) (s : Int) 1 r = ⟨r.o ++ [⟨(p : Int), (s : Int), 0, 1⟩], r.c, r.i⟩ from rfl]; exact HO1.out⟩⟩
     ·have HK1 := Aside0.mk h1
      have t3 := eq_false h1
      have t4 : (kd == 1) = false := beq_eq_false_iff_ne.2 h1
      clear h1
      by_cases h2 : kd = 2
      ·subst h2
       go_wp2
       clear t1 t2 t3 t4 y0 y1
       go_loopg [11] (g + 1) (fun gk v11 w' => ∃ (q : Nat) (v5 : Value), v11 = .int .i64 (q : Int) ∧ Aside0 (q ≤ g + 1 ∧ g + 1 - q ≤ gk) ∧ Aside0 (OutR w' wO go (.int .i64 N) (.int .i64 G) vI (Value.slice none 0 0) v4 v5 v6 [0] [] r.o (wCl (p : Int) (s : Int) q r.c) r.i))
       case atStart => exact ⟨0, v5, rfl, ⟨by omega, by omega⟩, HO⟩
       case round =>
        clear HO
        clear v5
        obtain ⟨q, v5, rfl, Hq, HO⟩ := hrel
        clear wq
        obtain ⟨wq, rfl⟩ : ∃ wq : World, wq = wr := ⟨_, rfl⟩
        by_cases hlq : ¬ q < g + 1
        ·have e4 : q = g + 1 := by have := Hq.out; omega
         have t1 := eq_false (show ¬ (q : Int) ≤ G by have := Hn.out.2; omega)
         have HO1 : Aside0 (OutR wq wO go (.int .i64 N) (.int .i64 G) vI (Value.slice none 0 0) v4 v5 v6 [0] [] r.o (wCl (p : Int) (s : Int) (g + 1) r.c) r.i) := ⟨by rw [← e4]; exact HO.out⟩
         clear hlq Hq e4
         have b1 := (blk_cell HO.out.t 1).trans (show (#[.int .i64 N, .int .i64 G, vI, (Value.slice none 0 0), v4, v5, v6] : Array Value)[1]? = some (.int .i64 G) from rfl)
         have HG1 : Aside0 ((G + 1).toNat = g + 1) := ⟨by have := Hn.out.2; omega⟩
         go_wp2
         go_roundg (S.length - (s + 1))
         case measure => have := Hs.out; have := HLS.out; omega
         case rel => exact ⟨s + 1, v4, v5, v6, by first | rfl | rw [show wrap64 ((s : Int) + 1) = ((s + 1 : Nat) : Int) by have := HLS.out; have := HS7.out; unfold wrap64; omega], ⟨HLS.out, Nat.le_refl _⟩, ⟨by rw [HR.out, show wSym N G (p : Int) (s : Int) 2 r = ⟨r.o, wCl (p : Int) (s : Int) (G + 1).toNat r.c, r.i⟩ from rfl, HG1.out]; exact HO1.out⟩⟩
        ·have hlq := Classical.not_not.1 hlq
         have HLQ := Aside0.mk hlq
         have t1 := eq_true (show (q : Int) ≤ G by have := Hn.out.2; omega)
         have HLC : Aside0 ((wCl (p : Int) (s : Int) q r.c).length = r.c.length + q) := ⟨wCl_len _ _ _ _⟩
         have HCN : Aside0 (wCl (p : Int) (s : Int) (q + 1) r.c = wCl (p : Int) (s : Int) q r.c ++ [⟨(p : Int), (s : Int), (q : Int), (p : Int)⟩]) := ⟨rfl⟩
         generalize wCl (p : Int) (s : Int) q r.c = cc at HO HLC HCN
         clear hlq
         have b1 := (blk_cell HO.out.t 1).trans (show (#[.int .i64 N, .int .i64 G, vI, (Value.slice none 0 0), v4, v5, v6] : Array Value)[1]? = some (.int .i64 G) from rfl)
         have b0 := (blk_cell HO.out.t 0).trans (show (#[.int .i64 N, .int .i64 G, vI, (Value.slice none 0 0), v4, v5, v6] : Array Value)[0]? = some (.int .i64 N) from rfl)
         have b5 := (blk_cell HO.out.t 5).trans (show (#[.int .i64 N, .int .i64 G, vI, (Value.slice none 0 0), v4, v5, v6] : Array Value)[5]? = some (v5) from rfl)
         go_wp2_with ((with_reducible refine gate_builtin (b := .append) (xs := #[.tmp 74, .tmp 80]) rfl ?_); at_builtin; go_loud (refine Kd.R_append k38 (w0 := wO) wO.heap.size rfl (.tmp 74) (.tmp 80) 27 38 (.agg #[.int .i64 0, .int .i64 0, .int .i64 0, .int .i64 0]) 32 rfl Tryz.underlying27 infoClose rfl (by decide) (by decide) v5 cc (⟨(p : Int), (s : Int), (q : Int), (p : Int)⟩) [.int .i64 (p : Int), .int .i64 (s : Int), .int .i64 (q : Int), .int .i64 (p : Int)] (fun k => some k = (v5 : Value).ownBlock ∨ wq.heap.size ≤ k) (fun _ => False) rfl rfl (k38_mkM _ _ _ _) (fun _ h => h.elim) (fun k h => .inr h) (Kd.R_mono HO.out.r5 (fun k h => .inl h)) HO.out.b HO.out.b.size ?ql ?_); (case ql => have h1 := HLN.out; have h2 := HLT.out; have h3 := Hn3.out; have h4 := HLS.out; have h5 := HS7.out; have h6 := HLC.out; have h7 := HLQ.out; unfold wLe at h1; omega); intro v1 w1 hr1 hb1 hg1 hat1; obtain ⟨A1, m1, k1, rfl⟩ := slice3 hr1; have HO1 := Aside0.mk (HO.out.app5 hr1 hb1 hg1 hat1); have HT1 := Aside0.mk (blk_grown HO.out.t hg1 (Kd.R_ne HO.out.r5 HO.out.t (by decide))); have hc2 := (blk_cell HT1.out 5).trans (show (#[Value.int .i64 N, .int .i64 G, vI, (Value.slice none 0 0), v4, v5, v6] : Array Value)[5]? = some v5 from rfl); have hf2 := blk_frozen HT1.out 5; clear hr1 hb1 hg1 hat1)
         go_wp2
         go_roundg (g + 1 - (q + 1))
         case measure => have := Hq.out; have := HLQ.out; omega
         case rel => exact ⟨q + 1, _, by first | rfl | rw [show wrap64 ((q : Int) + 1) = ((q + 1 : Nat) : Int) by have := HLQ.out; have := Hn3.out; unfold wrap64; omega], ⟨HLQ.out, Nat.le_refl _⟩, ⟨by rw [HCN.out]; exact HO1.out⟩⟩
      ·have HK2 := Aside0.mk h2
       have t5 := eq_false h2
       have t6 : (kd == 2) = false := beq_eq_false_iff_ne.2 h2
       clear h2
       have b0 := (blk_cell HO.out.t 0).trans (show (#[.int .i64 N, .int .i64 G, vI, (Value.slice none 0 0), v4, v5, v6] : Array Value)[0]? = some (.int .i64 N) from rfl)
       have b6 := (blk_cell HO.out.t 6).trans (show (#[.int .i64 N, .int .i64 G, vI, (Value.slice none 0 0), v4, v5, v6] : Array Value)[6]? = some (v6) from rfl)
       go_wp2_with ((with_reducible refine gate_builtin (b := .append) (xs := #[.tmp 45, .tmp 52]) rfl ?_); at_builtin; go_loud (refine Kd.R_append k40 (w0 := wO) wO.heap.size rfl (.tmp 45) (.tmp 52) 28 40 (.agg #[.int .i64 0, .int .i64 0, .int .i64 0]) 24 rfl Tryz.underlying28 infoInner rfl (by decide) (by decide) v6 r.i (⟨(p : Int), (s : Int), wrap64 (N - 1)⟩) [.int .i64 (p : Int), .int .i64 (s : Int), .int .i64 (wrap64 (N - 1))] (fun k => some k = (v6 : Value).ownBlock ∨ wq.heap.size ≤ k) (fun _ => False) rfl rfl (k40_mkM _ _ _ _) (fun _ h => h.elim) (fun k h => .inr h) (Kd.R_mono HO.out.r6 (fun k h => .inl h)) HO.out.b HO.out.b.size ?ql ?_); (case ql => have h1 := HLN.out; have h2 := HLT.out; have h3 := Hn3.out; have h4 := HLS.out; have h5 := HS7.out; unfold wLe at h1; omega); intro v1 w1 hr1 hb1 hg1 hat1; obtain ⟨A1, m1, k1, rfl⟩ := slice3 hr1; have HO1 := Aside0.mk (HO.out.app6 hr1 hb1 hg1 hat1); have HT1 := Aside0.mk (blk_grown HO.out.t hg1 (Kd.R_ne HO.out.r6 HO.out.t (by decide))); have hc2 := (blk_cell HT1.out 6).trans (show (#[Value.int .i64 N, .int .i64 G, vI, (Value.slice none 0 0), v4, v5, v6] : Array Value)[6]? = some v6 from rfl); have hf2 := blk_frozen HT1.out 6; clear hr1 hb1 hg1 hat1)
       go_wp2
       go_roundg (S.length - (s + 1))
       case measure => have := Hs.out; have := HLS.out; omega
       case rel => exact ⟨s + 1, v4, v5, _, by first | rfl | rw [show wrap64 ((s : Int) + 1) = ((s + 1 : Nat) : Int) by have := HLS.out; have := HS7.out; unfold wrap64; omega], ⟨HLS.out, Nat.le_refl _⟩, ⟨by rw [HR.out, show wSym N G (p : Int) (s : Int) kd r = ⟨r.o, r.c, r.i ++ [⟨(p : Int), (s : Int), wrap64 (N - 1)⟩]⟩ from (if_neg HK1.out).trans (if_neg HK2.out)]; exact HO1.out⟩⟩
theorem canopylaw3_AutoWhole.walk (P : canopylaw3_AutoWhole.Pure) (a0 : Int) (a1 : Int) (a2 : Int) (w : World) (w0 : (Lit.int .i64 a0).wf = true) (w1 : (Lit.int .i64 a1).wf = true) (w2 : (Lit.int .i64 a2).wf = true) :
 Calls Tryz.prog 6 #[.int .i64 a0, .int .i64 a1, .int .i64 a2] w fun e w' => e = .returned (.bool true) ∧ Below w.heap.size w w' := whole_walk a0 a1 a2 w
end Go.Proofs.YtejpijgfpbcibaaGreat.P
