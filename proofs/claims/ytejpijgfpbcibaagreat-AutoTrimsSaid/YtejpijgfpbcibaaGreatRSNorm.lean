/- Words and walks of this claim: SNorm. -/
import Derived.Test.YtejpijgfpbcibaaGreatRMFar
import Derived.Test.YtejpijgfpbcibaaGreatRGOpen
import Derived.Test.YtejpijgfpbcibaaGreatRGClose
import Derived.Test.YtejpijgfpbcibaaGreatRGInner
import Derived.Test.YtejpijgfpbcibaaGreatRMHasEtc
set_option linter.unusedVariables false
set_option linter.unusedSimpArgs false
set_option linter.unnecessarySimpa false
namespace Go.Proofs.YtejpijgfpbcibaaGreat.P
open Go.RowKit Go.Proofs.YtejpijgfpbcibaaGreatW.PrintWords Go.Proofs.YtejpijgfpbcibaaGreatW.PrintLast Go.Proofs.YtejpijgfpbcibaaGreatW.PrintMore Go.Proofs.YtejpijgfpbcibaaGreat.M
theorem below_setCells7 {w w1:World} {v0 v1 v2 v3 v4 v5 v6:Value} {g:Nat} (h:Below w.heap.size w w1) (hg:w.heap.size≤g:=by omega):Below w.heap.size w (((((((w1.setCell ⟨g,0,none⟩ v0).setCell ⟨g,1,none⟩ v1).setCell ⟨g,2,none⟩ v2).setCell ⟨g,3,none⟩ v3).setCell ⟨g,4,none⟩ v4).setCell ⟨g,5,none⟩ v5).setCell ⟨g,6,none⟩ v6):=
 ((((((h.setCell hg _).setCell hg _).setCell hg _).setCell hg _).setCell hg _).setCell hg _).setCell hg _
set_option maxHeartbeats 8000000 in
set_option maxRecDepth 100000 in
theorem norm_own (n g:Int) (A2:Option Addr) (c2:Nat) (l2:List Int) (A3:Option Addr) (c3:Nat) (l3:List Int) (A4:Option Addr) (c4:Nat) (l4:List TOpen) (A5:Option Addr) (c5:Nat) (l5:List TClose) (A6:Option Addr) (c6:Nat) (l6:List TInner) (w:World) (h2:Kd.C (Kd.int .i64) w A2 l2.length l2) (hc2:l2.length≤c2) (hl2:l2.length≤1000000000) (h3:Kd.C (Kd.int .i64) w A3 l3.length l3) (hc3:l3.length≤c3) (hl3:l3.length≤1000000000) (h4:Kd.C k36 w A4 l4.length l4) (hc4:l4.length≤c4) (hl4:l4.length≤1000000000) (h5:Kd.C k38 w A5 l5.length l5) (hc5:l5.length≤c5) (hl5:l5.length≤1000000000) (h6:Kd.C k40 w A6 l6.length l6) (hc6:l6.length≤c6) (hl6:l6.length≤1000000000) :
 Calls Tryz.prog 25 #[.agg #[.int .i64 n,.int .i64 g,.slice A2 l2.length c2,.slice A3 l3.length c3,.slice A4 l4.length c4,.slice A5 l5.length c5,.slice A6 l6.length c6]] w fun e w'=>∃v2 v3 v4 v5 v6:Value,e=.returned (.agg #[.int .i64 n,.int .i64 g,v2,v3,v4,v5,v6])∧Kd.V (Kd.int .i64) 3 w' w.heap.size (fun k_=>w.heap.size≤k_) v2 (onceC cmpInt l2)∧Kd.V (Kd.int .i64) 3 w' w.heap.size (fun k_=>w.heap.size≤k_) v3 (onceC cmpInt l3)∧Kd.V k36 36 w' w.heap.size (fun k_=>w.heap.size≤k_) v4 (onceC cmpOpen l4)∧Kd.V k38 38 w' w.heap.size (fun k_=>w.heap.size≤k_) v5 (onceC cmpClose l5)∧Kd.V k40 40 w' w.heap.size (fun k_=>w.heap.size≤k_) v6 (onceC cmpInner l6)∧Below w.heap.size w w':=by
 have HI2:=Aside0.mk (And.intro h2 (And.intro hc2 hl2))
 have HI3:=Aside0.mk (And.intro h3 (And.intro hc3 hl3))
 have HI4:=Aside0.mk (And.intro h4 (And.intro hc4 hl4))
 have HI5:=Aside0.mk (And.intro h5 (And.intro hc5 hl5))
 have HI6:=Aside0.mk (And.intro h6 (And.intro hc6 hl6))
 clear h2 hc2 hl2 h3 hc3 hl3 h4 hc4 hl4 h5 hc5 hl5 h6 hc6 hl6
 have h2_:Aside0 (w.heap.size < w.heap.size+1):=⟨Nat.lt_succ_self _⟩
 go_enter Tryz.func25,Tryz.ntmps25
 go_wp2
 have H2:Aside0 (((w.alloc (.cells #[.int .i64 n,.int .i64 g,.slice A2 l2.length c2,.slice A3 l3.length c3,.slice A4 l4.length c4,.slice A5 l5.length c5,.slice A6 l6.length c6] 30)).alloc (.cells #[.int .i64 0,.int .i64 0,.slice none 0 0,.slice none 0 0,.slice none 0 0,.slice none 0 0,.slice none 0 0] 30)).drew.heap[w.heap.size]? = some (.cells #[.int .i64 n,.int .i64 g,.slice A2 l2.length c2,.slice A3 l3.length c3,.slice A4 l4.length c4,.slice A5 l5.length c5,.slice A6 l6.length c6] 30 (0,0))):=⟨blk_old (blk_newAt _ rfl) _⟩
 have H3:Aside0 (((w.alloc (.cells #[.int .i64 n,.int .i64 g,.slice A2 l2.length c2,.slice A3 l3.length c3,.slice A4 l4.length c4,.slice A5 l5.length c5,.slice A6 l6.length c6] 30)).alloc (.cells #[.int .i64 0,.int .i64 0,.slice none 0 0,.slice none 0 0,.slice none 0 0,.slice none 0 0,.slice none 0 0] 30)).drew.heap[w.heap.size+1]? = some (.cells #[.int .i64 0,.int .i64 0,.slice none 0 0,.slice none 0 0,.slice none 0 0,.slice none 0 0,.slice none 0 0] 30 (0,0))):=⟨blk_newAt _ (size_alloc _ _).symm⟩
 have HB:Aside0 (Below w.heap.size w ((w.alloc (.cells #[.int .i64 n,.int .i64 g,.slice A2 l2.length c2,.slice A3 l3.length c3,.slice A4 l4.length c4,.slice A5 l5.length c5,.slice A6 l6.length c6] 30)).alloc (.cells #[.int .i64 0,.int .i64 0,.slice none 0 0,.slice none 0 0,.slice none 0 0,.slice none 0 0,.slice none 0 0] 30)).drew):=⟨below_drew (below_alloc (below_alloc (Below.refl _ _) _) _)⟩
 have HZ:Aside0 (w.heap.size+2≤((w.alloc (.cells #[.int .i64 n,.int .i64 g,.slice A2 l2.length c2,.slice A3 l3.length c3,.slice A4 l4.length c4,.slice A5 l5.length c5,.slice A6 l6.length c6] 30)).alloc (.cells #[.int .i64 0,.int .i64 0,.slice none 0 0,.slice none 0 0,.slice none 0 0,.slice none 0 0,.slice none 0 0] 30)).drew.heap.size):=⟨by show w.heap.size+2≤(((w.alloc (.cells #[.int .i64 n,.int .i64 g,.slice A2 l2.length c2,.slice A3 l3.length c3,.slice A4 l4.length c4,.slice A5 l5.length c5,.slice A6 l6.length c6] 30)).alloc (.cells #[.int .i64 0,.int .i64 0,.slice none 0 0,.slice none 0 0,.slice none 0 0,.slice none 0 0,.slice none 0 0] 30)).heap.size);rw [size_alloc,size_alloc];omega⟩
 have HB2:Aside0 (w.heap.size+1 < w.heap.size+2):=⟨by omega⟩
 refine start_ (n:=21) (S:=fun w'=>w'.cell? ⟨w.heap.size,0,none⟩=some (.int .i64 n)∧w'.cell? ⟨w.heap.size,1,none⟩=some (.int .i64 g)∧w'.cell? ⟨w.heap.size,2,none⟩=some (.slice A2 l2.length c2)∧w'.cell? ⟨w.heap.size,3,none⟩=some (.slice A3 l3.length c3)∧w'.cell? ⟨w.heap.size,4,none⟩=some (.slice A4 l4.length c4)∧w'.cell? ⟨w.heap.size,5,none⟩=some (.slice A5 l5.length c5)∧w'.cell? ⟨w.heap.size,6,none⟩=some (.slice A6 l6.length c6)) (ds:=[20]) #[false,false,false,false,false,false,false,false,false,false,false,false,false,false,false,false,false,false,false,false,false] (by kernel_rfl) rfl rfl ⟨(blk_cell H2.out 0).trans rfl,(blk_cell H2.out 1).trans rfl,(blk_cell H2.out 2).trans rfl,(blk_cell H2.out 3).trans rfl,(blk_cell H2.out 4).trans rfl,(blk_cell H2.out 5).trans rfl,(blk_cell H2.out 6).trans rfl⟩ (fun hHeld=>?_)
 generalize ((w.alloc (.cells #[.int .i64 n,.int .i64 g,.slice A2 l2.length c2,.slice A3 l3.length c3,.slice A4 l4.length c4,.slice A5 l5.length c5,.slice A6 l6.length c6] 30)).alloc (.cells #[.int .i64 0,.int .i64 0,.slice none 0 0,.slice none 0 0,.slice none 0 0,.slice none 0 0,.slice none 0 0] 30)).drew=wd at H2 H3 HB HZ hHeld ⊢
 refine pure_ (i:=0) (N:=(some 3)) (v:=?_) (a':=?_) #[true,false,false,false,false,false,false,false,false,false,false,false,false,false,false,false,false,false,false,false,false] rfl rfl (by kernel_rfl) (fun _ _ _ h=>h) (Or.inl ⟨by rfl,?_⟩) ?_ ?_
 rotate_left
 ·intro w'
  go_simp
  with_reducible rfl
 rotate_left
 ·simp only [Act.put, M.sq3, i64_w, i32_w]
  rfl
 refine pure_ (i:=2) (N:=(some 5)) (v:=?_) (a':=?_) #[true,false,true,false,false,false,false,false,false,false,false,false,false,false,false,false,false,false,false,false,false] rfl rfl (by kernel_rfl) (fun _ _ _ h=>h) (Or.inl ⟨by rfl,?_⟩) ?_ ?_
 rotate_left
 ·intro w'
  go_simp
  with_reducible rfl
 rotate_left
 ·simp only [Act.put, M.sq3, i64_w, i32_w]
  rfl
 refine pure_ (i:=4) (N:=(some 7)) (v:=?_) (a':=?_) #[true,false,true,false,true,false,false,false,false,false,false,false,false,false,false,false,false,false,false,false,false] rfl rfl (by kernel_rfl) (fun _ _ _ h=>h) (Or.inl ⟨by rfl,?_⟩) ?_ ?_
 rotate_left
 ·intro w'
  go_simp
  with_reducible rfl
 rotate_left
 ·simp only [Act.put, M.sq3, i64_w, i32_w]
  rfl
 refine pure_ (i:=7) (N:=(some 10)) (v:=?_) (a':=?_) #[true,false,true,false,true,false,false,true,false,false,false,false,false,false,false,false,false,false,false,false,false] rfl rfl (by kernel_rfl) (fun _ _ _ h=>h) (Or.inl ⟨by rfl,?_⟩) ?_ ?_
 rotate_left
 ·intro w'
  go_simp
  with_reducible rfl
 rotate_left
 ·simp only [Act.put, M.sq3, i64_w, i32_w]
  rfl
 refine pure_ (i:=10) (N:=(some 13)) (v:=?_) (a':=?_) #[true,false,true,false,true,false,false,true,false,false,true,false,false,false,false,false,false,false,false,false,false] rfl rfl (by kernel_rfl) (fun _ _ _ h=>h) (Or.inl ⟨by rfl,?_⟩) ?_ ?_
 rotate_left
 ·intro w'
  go_simp
  with_reducible rfl
 rotate_left
 ·simp only [Act.put, M.sq3, i64_w, i32_w]
  rfl
 refine pure_ (i:=13) (N:=(some 16)) (v:=?_) (a':=?_) #[true,false,true,false,true,false,false,true,false,false,true,false,false,true,false,false,false,false,false,false,false] rfl rfl (by kernel_rfl) (fun _ _ _ h=>h) (Or.inl ⟨by rfl,?_⟩) ?_ ?_
 rotate_left
 ·intro w'
  go_simp
  with_reducible rfl
 rotate_left
 ·simp only [Act.put, M.sq3, i64_w, i32_w]
  rfl
 refine pure_ (i:=16) (N:=(some 19)) (v:=?_) (a':=?_) #[true,false,true,false,true,false,false,true,false,false,true,false,false,true,false,false,true,false,false,false,false] rfl rfl (by kernel_rfl) (fun _ _ _ h=>h) (Or.inl ⟨by rfl,?_⟩) ?_ ?_
 rotate_left
 ·intro w'
  go_simp
  with_reducible rfl
 rotate_left
 ·simp only [Act.put, M.sq3, i64_w, i32_w]
  rfl
 refine take_ (i:=1) (N:=(some 4)) (v:=?_) (a':=?_) #[true,true,true,false,true,false,false,true,false,false,true,false,false,true,false,false,true,false,false,false,false] rfl rfl (by kernel_rfl) (fun _ _ _ h=>h) (Or.inl ⟨by rfl,?_⟩) hHeld ?_ ?_
 rotate_left
 ·intro w' hS_
  obtain⟨s0,s1,s2,s3,s4,s5,s6⟩:=hS_
  go_simp
  with_reducible rfl
 rotate_left
 ·simp only [Act.put, M.sq3, i64_w, i32_w]
  rfl
 refine take_ (i:=3) (N:=(some 6)) (v:=?_) (a':=?_) #[true,true,true,true,true,false,false,true,false,false,true,false,false,true,false,false,true,false,false,false,false] rfl rfl (by kernel_rfl) (fun _ _ _ h=>h) (Or.inl ⟨by rfl,?_⟩) hHeld ?_ ?_
 rotate_left
 ·intro w' hS_
  obtain⟨s0,s1,s2,s3,s4,s5,s6⟩:=hS_
  go_simp
  with_reducible rfl
 rotate_left
 ·simp only [Act.put, M.sq3, i64_w, i32_w]
  rfl
 refine take_ (i:=5) (N:=(some 8)) (v:=?_) (a':=?_) #[true,true,true,true,true,true,false,true,false,false,true,false,false,true,false,false,true,false,false,false,false] rfl rfl (by kernel_rfl) (fun _ _ _ h=>h) (Or.inl ⟨by rfl,?_⟩) hHeld ?_ ?_
 rotate_left
 ·intro w' hS_
  obtain⟨s0,s1,s2,s3,s4,s5,s6⟩:=hS_
  go_simp
  with_reducible rfl
 rotate_left
 ·simp only [Act.put, M.sq3, i64_w, i32_w]
  rfl
 refine take_ (i:=8) (N:=(some 11)) (v:=?_) (a':=?_) #[true,true,true,true,true,true,false,true,true,false,true,false,false,true,false,false,true,false,false,false,false] rfl rfl (by kernel_rfl) (fun _ _ _ h=>h) (Or.inl ⟨by rfl,?_⟩) hHeld ?_ ?_
 rotate_left
 ·intro w' hS_
  obtain⟨s0,s1,s2,s3,s4,s5,s6⟩:=hS_
  go_simp
  with_reducible rfl
 rotate_left
 ·simp only [Act.put, M.sq3, i64_w, i32_w]
  rfl
 refine take_ (i:=11) (N:=(some 14)) (v:=?_) (a':=?_) #[true,true,true,true,true,true,false,true,true,false,true,true,false,true,false,false,true,false,false,false,false] rfl rfl (by kernel_rfl) (fun _ _ _ h=>h) (Or.inl ⟨by rfl,?_⟩) hHeld ?_ ?_
 rotate_left
 ·intro w' hS_
  obtain⟨s0,s1,s2,s3,s4,s5,s6⟩:=hS_
  go_simp
  with_reducible rfl
 rotate_left
 ·simp only [Act.put, M.sq3, i64_w, i32_w]
  rfl
 refine take_ (i:=14) (N:=(some 17)) (v:=?_) (a':=?_) #[true,true,true,true,true,true,false,true,true,false,true,true,false,true,true,false,true,false,false,false,false] rfl rfl (by kernel_rfl) (fun _ _ _ h=>h) (Or.inl ⟨by rfl,?_⟩) hHeld ?_ ?_
 rotate_left
 ·intro w' hS_
  obtain⟨s0,s1,s2,s3,s4,s5,s6⟩:=hS_
  go_simp
  with_reducible rfl
 rotate_left
 ·simp only [Act.put, M.sq3, i64_w, i32_w]
  rfl
 refine take_ (i:=17) (N:=(some 20)) (v:=?_) (a':=?_) #[true,true,true,true,true,true,false,true,true,false,true,true,false,true,true,false,true,true,false,false,false] rfl rfl (by kernel_rfl) (fun _ _ _ h=>h) (Or.inl ⟨by rfl,?_⟩) hHeld ?_ ?_
 rotate_left
 ·intro w' hS_
  obtain⟨s0,s1,s2,s3,s4,s5,s6⟩:=hS_
  go_simp
  with_reducible rfl
 rotate_left
 ·simp only [Act.put, M.sq3, i64_w, i32_w]
  rfl
 refine one_ (i:=6) (N:=(some 9)) #[true,true,true,true,true,true,true,true,true,false,true,true,false,true,true,false,true,true,false,false,false] rfl rfl (by kernel_rfl) (by decide) (fun K hK=>?_)
 refine goes_ Tryz.func42 (by kernel_rfl) rfl #[.slice A2 l2.length c2] rfl rfl rfl (by(try simp only [List.map_toArray,List.map_cons,List.map_nil]);rfl) ?_
 refine(auto_ints.calls A2 c2 l2 (onceC cmpInt l2) _ (Kd.C_below HI2.out.1 HB.out) HI2.out.2.1 (if_pos HI2.out.2.2)).mono ?_
 rintro e w2 ⟨v2,rfl,hv,hb⟩
 refine⟨_,rfl,?_⟩
 obtain⟨B2,b2,rfl⟩:=Kd.V_slice hv
 replace H2:=Aside0.mk (blk_below H2.out hb)
 replace H3:=Aside0.mk (blk_below H3.out hb)
 have HV2:=Aside0.mk (Kd.V_mono hv (fun k hk=>(Nat.lt_of_lt_of_le HB2.out (Nat.le_trans HZ.out hk):w.heap.size+1 < k)))
 have HZn:Aside0 (w.heap.size+2≤w2.heap.size):=⟨Nat.le_trans HZ.out hb.size⟩
 clear HZ
 have HZ:=HZn
 clear HZn
 have HBn:=Aside0.mk (below_then HB.out HB.out.size hb)
 clear HB
 have HB:=HBn
 clear HBn
 clear hv hb
 refine hK.out _ _ ⟨(blk_cell H2.out 0).trans rfl,(blk_cell H2.out 1).trans rfl,(blk_cell H2.out 2).trans rfl,(blk_cell H2.out 3).trans rfl,(blk_cell H2.out 4).trans rfl,(blk_cell H2.out 5).trans rfl,(blk_cell H2.out 6).trans rfl⟩ (fun hHeld=>?_)
 clear hK K
 refine norm_ (a':=?_) ?_ ?_
 rotate_left
 ·show Act.put _ (some 9) _ = _
  simp only [Act.put,M.sq3,i64_w,i32_w]
  rfl
 refine one_ (i:=9) (N:=(some 12)) #[true,true,true,true,true,true,true,true,true,true,true,true,false,true,true,false,true,true,false,false,false] rfl rfl (by kernel_rfl) (by decide) (fun K hK=>?_)
 refine goes_ Tryz.func42 (by kernel_rfl) rfl #[.slice A3 l3.length c3] rfl rfl rfl (by(try simp only [List.map_toArray,List.map_cons,List.map_nil]);rfl) ?_
 refine(auto_ints.calls A3 c3 l3 (onceC cmpInt l3) _ (Kd.C_below HI3.out.1 HB.out) HI3.out.2.1 (if_pos HI3.out.2.2)).mono ?_
 rintro e w3 ⟨v3,rfl,hv,hb⟩
 refine⟨_,rfl,?_⟩
 obtain⟨B3,b3,rfl⟩:=Kd.V_slice hv
 replace H2:=Aside0.mk (blk_below H2.out hb)
 replace H3:=Aside0.mk (blk_below H3.out hb)
 have n2:=Aside0.mk (Kd.V_below HV2.out hb)
 clear HV2
 have HV2:=n2
 clear n2
 have HV3:=Aside0.mk (Kd.V_mono hv (fun k hk=>(Nat.lt_of_lt_of_le HB2.out (Nat.le_trans HZ.out hk):w.heap.size+1 < k)))
 have HZn:Aside0 (w.heap.size+2≤w3.heap.size):=⟨Nat.le_trans HZ.out hb.size⟩
 clear HZ
 have HZ:=HZn
 clear HZn
 have HBn:=Aside0.mk (below_then HB.out HB.out.size hb)
 clear HB
 have HB:=HBn
 clear HBn
 clear hv hb
 refine hK.out _ _ ⟨(blk_cell H2.out 0).trans rfl,(blk_cell H2.out 1).trans rfl,(blk_cell H2.out 2).trans rfl,(blk_cell H2.out 3).trans rfl,(blk_cell H2.out 4).trans rfl,(blk_cell H2.out 5).trans rfl,(blk_cell H2.out 6).trans rfl⟩ (fun hHeld=>?_)
 clear hK K
 refine norm_ (a':=?_) ?_ ?_
 rotate_left
 ·show Act.put _ (some 12) _ = _
  simp only [Act.put,M.sq3,i64_w,i32_w]
  rfl
 refine one_ (i:=12) (N:=(some 15)) #[true,true,true,true,true,true,true,true,true,true,true,true,true,true,true,false,true,true,false,false,false] rfl rfl (by kernel_rfl) (by decide) (fun K hK=>?_)
 refine goes_ Tryz.func43 (by kernel_rfl) rfl #[.slice A4 l4.length c4,.func (.func 44) #[] #[]] rfl rfl rfl (by(try simp only [List.map_toArray,List.map_cons,List.map_nil]);rfl) ?_
 refine(onceOpen.calls A4 c4 l4 (onceC cmpOpen l4) _ (Kd.C_below HI4.out.1 HB.out) HI4.out.2.1 (if_pos HI4.out.2.2)).mono ?_
 rintro e w4 ⟨v4,rfl,hv,hb⟩
 refine⟨_,rfl,?_⟩
 obtain⟨B4,b4,rfl⟩:=Kd.V_slice hv
 replace H2:=Aside0.mk (blk_below H2.out hb)
 replace H3:=Aside0.mk (blk_below H3.out hb)
 have n2:=Aside0.mk (Kd.V_below HV2.out hb)
 clear HV2
 have HV2:=n2
 clear n2
 have n3:=Aside0.mk (Kd.V_below HV3.out hb)
 clear HV3
 have HV3:=n3
 clear n3
 have HV4:=Aside0.mk (Kd.V_mono hv (fun k hk=>(Nat.lt_of_lt_of_le HB2.out (Nat.le_trans HZ.out hk):w.heap.size+1 < k)))
 have HZn:Aside0 (w.heap.size+2≤w4.heap.size):=⟨Nat.le_trans HZ.out hb.size⟩
 clear HZ
 have HZ:=HZn
 clear HZn
 have HBn:=Aside0.mk (below_then HB.out HB.out.size hb)
 clear HB
 have HB:=HBn
 clear HBn
 clear hv hb
 refine hK.out _ _ ⟨(blk_cell H2.out 0).trans rfl,(blk_cell H2.out 1).trans rfl,(blk_cell H2.out 2).trans rfl,(blk_cell H2.out 3).trans rfl,(blk_cell H2.out 4).trans rfl,(blk_cell H2.out 5).trans rfl,(blk_cell H2.out 6).trans rfl⟩ (fun hHeld=>?_)
 clear hK K
 refine norm_ (a':=?_) ?_ ?_
 rotate_left
 ·show Act.put _ (some 15) _ = _
  simp only [Act.put,M.sq3,i64_w,i32_w]
  rfl
 refine one_ (i:=15) (N:=(some 18)) #[true,true,true,true,true,true,true,true,true,true,true,true,true,true,true,true,true,true,false,false,false] rfl rfl (by kernel_rfl) (by decide) (fun K hK=>?_)
 refine goes_ Tryz.func45 (by kernel_rfl) rfl #[.slice A5 l5.length c5,.func (.func 46) #[] #[]] rfl rfl rfl (by(try simp only [List.map_toArray,List.map_cons,List.map_nil]);rfl) ?_
 refine(onceClose.calls A5 c5 l5 (onceC cmpClose l5) _ (Kd.C_below HI5.out.1 HB.out) HI5.out.2.1 (if_pos HI5.out.2.2)).mono ?_
 rintro e w5 ⟨v5,rfl,hv,hb⟩
 refine⟨_,rfl,?_⟩
 obtain⟨B5,b5,rfl⟩:=Kd.V_slice hv
 replace H2:=Aside0.mk (blk_below H2.out hb)
 replace H3:=Aside0.mk (blk_below H3.out hb)
 have n2:=Aside0.mk (Kd.V_below HV2.out hb)
 clear HV2
 have HV2:=n2
 clear n2
 have n3:=Aside0.mk (Kd.V_below HV3.out hb)
 clear HV3
 have HV3:=n3
 clear n3
 have n4:=Aside0.mk (Kd.V_below HV4.out hb)
 clear HV4
 have HV4:=n4
 clear n4
 have HV5:=Aside0.mk (Kd.V_mono hv (fun k hk=>(Nat.lt_of_lt_of_le HB2.out (Nat.le_trans HZ.out hk):w.heap.size+1 < k)))
 have HZn:Aside0 (w.heap.size+2≤w5.heap.size):=⟨Nat.le_trans HZ.out hb.size⟩
 clear HZ
 have HZ:=HZn
 clear HZn
 have HBn:=Aside0.mk (below_then HB.out HB.out.size hb)
 clear HB
 have HB:=HBn
 clear HBn
 clear hv hb
 refine hK.out _ _ ⟨(blk_cell H2.out 0).trans rfl,(blk_cell H2.out 1).trans rfl,(blk_cell H2.out 2).trans rfl,(blk_cell H2.out 3).trans rfl,(blk_cell H2.out 4).trans rfl,(blk_cell H2.out 5).trans rfl,(blk_cell H2.out 6).trans rfl⟩ (fun hHeld=>?_)
 clear hK K
 refine norm_ (a':=?_) ?_ ?_
 rotate_left
 ·show Act.put _ (some 18) _ = _
  simp only [Act.put,M.sq3,i64_w,i32_w]
  rfl
 refine one_ (i:=18) (N:=(some 21)) #[true,true,true,true,true,true,true,true,true,true,true,true,true,true,true,true,true,true,true,false,false] rfl rfl (by kernel_rfl) (by decide) (fun K hK=>?_)
 refine goes_ Tryz.func47 (by kernel_rfl) rfl #[.slice A6 l6.length c6,.func (.func 48) #[] #[]] rfl rfl rfl (by(try simp only [List.map_toArray,List.map_cons,List.map_nil]);rfl) ?_
 refine(onceInner.calls A6 c6 l6 (onceC cmpInner l6) _ (Kd.C_below HI6.out.1 HB.out) HI6.out.2.1 (if_pos HI6.out.2.2)).mono ?_
 rintro e w6 ⟨v6,rfl,hv,hb⟩
 refine⟨_,rfl,?_⟩
 obtain⟨B6,b6,rfl⟩:=Kd.V_slice hv
 replace H2:=Aside0.mk (blk_below H2.out hb)
 replace H3:=Aside0.mk (blk_below H3.out hb)
 have n2:=Aside0.mk (Kd.V_below HV2.out hb)
 clear HV2
 have HV2:=n2
 clear n2
 have n3:=Aside0.mk (Kd.V_below HV3.out hb)
 clear HV3
 have HV3:=n3
 clear n3
 have n4:=Aside0.mk (Kd.V_below HV4.out hb)
 clear HV4
 have HV4:=n4
 clear n4
 have n5:=Aside0.mk (Kd.V_below HV5.out hb)
 clear HV5
 have HV5:=n5
 clear n5
 have HV6:=Aside0.mk (Kd.V_mono hv (fun k hk=>(Nat.lt_of_lt_of_le HB2.out (Nat.le_trans HZ.out hk):w.heap.size+1 < k)))
 have HZn:Aside0 (w.heap.size+2≤w6.heap.size):=⟨Nat.le_trans HZ.out hb.size⟩
 clear HZ
 have HZ:=HZn
 clear HZn
 have HBn:=Aside0.mk (below_then HB.out HB.out.size hb)
 clear HB
 have HB:=HBn
 clear HBn
 clear hv hb
 refine hK.out _ _ ⟨(blk_cell H2.out 0).trans rfl,(blk_cell H2.out 1).trans rfl,(blk_cell H2.out 2).trans rfl,(blk_cell H2.out 3).trans rfl,(blk_cell H2.out 4).trans rfl,(blk_cell H2.out 5).trans rfl,(blk_cell H2.out 6).trans rfl⟩ (fun hHeld=>?_)
 clear hK K
 refine norm_ (a':=?_) ?_ ?_
 rotate_left
 ·show Act.put _ (some 21) _ = _
  simp only [Act.put,M.sq3,i64_w,i32_w]
  rfl
 refine pure_ (i:=19) (N:=(some 22)) (v:=?_) (a':=?_) #[true,true,true,true,true,true,true,true,true,true,true,true,true,true,true,true,true,true,true,true,false] rfl rfl (by kernel_rfl) (fun _ _ _ h=>h) (Or.inl ⟨by rfl,?_⟩) ?_ ?_
 rotate_left
 ·intro w'
  go_simp
  with_reducible rfl
 rotate_left
 ·simp only [Act.put, M.sq3, i64_w, i32_w]
  rfl
 refine last_ (i:=20) (N:=none) #[true,true,true,true,true,true,true,true,true,true,true,true,true,true,true,true,true,true,true,true,true] rfl rfl (by kernel_rfl) (by decide) (fun K hK=>?_)
 have hcz0:=fun j=>blk_cell H3.out j
 have hc_0:=(hcz0 0).trans (show (#[.int .i64 0,.int .i64 0,.slice none 0 0,.slice none 0 0,.slice none 0 0,.slice none 0 0,.slice none 0 0]:Array Value)[0]? = some (.int .i64 0) from rfl)
 have hc_1:=(hcz0 1).trans (show (#[.int .i64 0,.int .i64 0,.slice none 0 0,.slice none 0 0,.slice none 0 0,.slice none 0 0,.slice none 0 0]:Array Value)[1]? = some (.int .i64 0) from rfl)
 have hc_2:=(hcz0 2).trans (show (#[.int .i64 0,.int .i64 0,.slice none 0 0,.slice none 0 0,.slice none 0 0,.slice none 0 0,.slice none 0 0]:Array Value)[2]? = some (.slice none 0 0) from rfl)
 have hc_3:=(hcz0 3).trans (show (#[.int .i64 0,.int .i64 0,.slice none 0 0,.slice none 0 0,.slice none 0 0,.slice none 0 0,.slice none 0 0]:Array Value)[3]? = some (.slice none 0 0) from rfl)
 have hc_4:=(hcz0 4).trans (show (#[.int .i64 0,.int .i64 0,.slice none 0 0,.slice none 0 0,.slice none 0 0,.slice none 0 0,.slice none 0 0]:Array Value)[4]? = some (.slice none 0 0) from rfl)
 have hc_5:=(hcz0 5).trans (show (#[.int .i64 0,.int .i64 0,.slice none 0 0,.slice none 0 0,.slice none 0 0,.slice none 0 0,.slice none 0 0]:Array Value)[5]? = some (.slice none 0 0) from rfl)
 have hc_6:=(hcz0 6).trans (show (#[.int .i64 0,.int .i64 0,.slice none 0 0,.slice none 0 0,.slice none 0 0,.slice none 0 0,.slice none 0 0]:Array Value)[6]? = some (.slice none 0 0) from rfl)
 have hf_0:=blk_frozen H3.out 0
 have hf_1:=blk_frozen H3.out 1
 have hf_2:=blk_frozen H3.out 2
 have hf_3:=blk_frozen H3.out 3
 have hf_4:=blk_frozen H3.out 4
 have hf_5:=blk_frozen H3.out 5
 have hf_6:=blk_frozen H3.out 6
 clear hcz0
 refine Go.Proofs.YtejpijgfpbcibaaGreat.M.step_skip (w1:=(((((((w6.setCell ⟨w.heap.size+1,0,none⟩ (.int .i64 n)).setCell ⟨w.heap.size+1,1,none⟩ (.int .i64 g)).setCell ⟨w.heap.size+1,2,none⟩ (.slice B2 (onceC cmpInt l2).length b2)).setCell ⟨w.heap.size+1,3,none⟩ (.slice B3 (onceC cmpInt l3).length b3)).setCell ⟨w.heap.size+1,4,none⟩ (.slice B4 (onceC cmpOpen l4).length b4)).setCell ⟨w.heap.size+1,5,none⟩ (.slice B5 (onceC cmpClose l5).length b5)).setCell ⟨w.heap.size+1,6,none⟩ (.slice B6 (onceC cmpInner l6).length b6))) rfl rfl (by go_simp) ?_
 refine hK.out _ _ ?_
 clear hK K
 refine done_ (by kernel_rfl) ?_
 have hres:=blk_set (blk_set (blk_set (blk_set (blk_set (blk_set (blk_set (H3.out) 0 (.int .i64 n)) 1 (.int .i64 g)) 2 (.slice B2 (onceC cmpInt l2).length b2)) 3 (.slice B3 (onceC cmpInt l3).length b3)) 4 (.slice B4 (onceC cmpOpen l4).length b4)) 5 (.slice B5 (onceC cmpClose l5).length b5)) 6 (.slice B6 (onceC cmpInner l6).length b6)
 go_wp2
 refine bodyPost_ret (results_cell_row rfl _ _ (w.heap.size+1) 30 #[.int .i64 n,.int .i64 g,.slice B2 (onceC cmpInt l2).length b2,.slice B3 (onceC cmpInt l3).length b3,.slice B4 (onceC cmpOpen l4).length b4,.slice B5 (onceC cmpClose l5).length b5,.slice B6 (onceC cmpInner l6).length b6] (0,0) _ rfl hres Tryz.underlying30 rfl (by kernel_rfl)) rfl ?_
 refine⟨_,_,_,_,_,rfl,Kd.V_mono (Kd.V_far (p:=⟨w.heap.size+1,6,none⟩) (Kd.V_far (p:=⟨w.heap.size+1,5,none⟩) (Kd.V_far (p:=⟨w.heap.size+1,4,none⟩) (Kd.V_far (p:=⟨w.heap.size+1,3,none⟩) (Kd.V_far (p:=⟨w.heap.size+1,2,none⟩) (Kd.V_far (p:=⟨w.heap.size+1,1,none⟩) (Kd.V_far (p:=⟨w.heap.size+1,0,none⟩) (HV2.out) (fun k hk e=>by have e2:k=w.heap.size+1:=e;omega) _) (fun k hk e=>by have e2:k=w.heap.size+1:=e;omega) _) (fun k hk e=>by have e2:k=w.heap.size+1:=e;omega) _) (fun k hk e=>by have e2:k=w.heap.size+1:=e;omega) _) (fun k hk e=>by have e2:k=w.heap.size+1:=e;omega) _) (fun k hk e=>by have e2:k=w.heap.size+1:=e;omega) _) (fun k hk e=>by have e2:k=w.heap.size+1:=e;omega) _) (fun k hk=>by omega),Kd.V_mono (Kd.V_far (p:=⟨w.heap.size+1,6,none⟩) (Kd.V_far (p:=⟨w.heap.size+1,5,none⟩) (Kd.V_far (p:=⟨w.heap.size+1,4,none⟩) (Kd.V_far (p:=⟨w.heap.size+1,3,none⟩) (Kd.V_far (p:=⟨w.heap.size+1,2,none⟩) (Kd.V_far (p:=⟨w.heap.size+1,1,none⟩) (Kd.V_far (p:=⟨w.heap.size+1,0,none⟩) (HV3.out) (fun k hk e=>by have e2:k=w.heap.size+1:=e;omega) _) (fun k hk e=>by have e2:k=w.heap.size+1:=e;omega) _) (fun k hk e=>by have e2:k=w.heap.size+1:=e;omega) _) (fun k hk e=>by have e2:k=w.heap.size+1:=e;omega) _) (fun k hk e=>by have e2:k=w.heap.size+1:=e;omega) _) (fun k hk e=>by have e2:k=w.heap.size+1:=e;omega) _) (fun k hk e=>by have e2:k=w.heap.size+1:=e;omega) _) (fun k hk=>by omega),Kd.V_mono (Kd.V_far (p:=⟨w.heap.size+1,6,none⟩) (Kd.V_far (p:=⟨w.heap.size+1,5,none⟩) (Kd.V_far (p:=⟨w.heap.size+1,4,none⟩) (Kd.V_far (p:=⟨w.heap.size+1,3,none⟩) (Kd.V_far (p:=⟨w.heap.size+1,2,none⟩) (Kd.V_far (p:=⟨w.heap.size+1,1,none⟩) (Kd.V_far (p:=⟨w.heap.size+1,0,none⟩) (HV4.out) (fun k hk e=>by have e2:k=w.heap.size+1:=e;omega) _) (fun k hk e=>by have e2:k=w.heap.size+1:=e;omega) _) (fun k hk e=>by have e2:k=w.heap.size+1:=e;omega) _) (fun k hk e=>by have e2:k=w.heap.size+1:=e;omega) _) (fun k hk e=>by have e2:k=w.heap.size+1:=e;omega) _) (fun k hk e=>by have e2:k=w.heap.size+1:=e;omega) _) (fun k hk e=>by have e2:k=w.heap.size+1:=e;omega) _) (fun k hk=>by omega),Kd.V_mono (Kd.V_far (p:=⟨w.heap.size+1,6,none⟩) (Kd.V_far (p:=⟨w.heap.size+1,5,none⟩) (Kd.V_far (p:=⟨w.heap.size+1,4,none⟩) (Kd.V_far (p:=⟨w.heap.size+1,3,none⟩) (Kd.V_far (p:=⟨w.heap.size+1,2,none⟩) (Kd.V_far (p:=⟨w.heap.size+1,1,none⟩) (Kd.V_far (p:=⟨w.heap.size+1,0,none⟩) (HV5.out) (fun k hk e=>by have e2:k=w.heap.size+1:=e;omega) _) (fun k hk e=>by have e2:k=w.heap.size+1:=e;omega) _) (fun k hk e=>by have e2:k=w.heap.size+1:=e;omega) _) (fun k hk e=>by have e2:k=w.heap.size+1:=e;omega) _) (fun k hk e=>by have e2:k=w.heap.size+1:=e;omega) _) (fun k hk e=>by have e2:k=w.heap.size+1:=e;omega) _) (fun k hk e=>by have e2:k=w.heap.size+1:=e;omega) _) (fun k hk=>by omega),Kd.V_mono (Kd.V_far (p:=⟨w.heap.size+1,6,none⟩) (Kd.V_far (p:=⟨w.heap.size+1,5,none⟩) (Kd.V_far (p:=⟨w.heap.size+1,4,none⟩) (Kd.V_far (p:=⟨w.heap.size+1,3,none⟩) (Kd.V_far (p:=⟨w.heap.size+1,2,none⟩) (Kd.V_far (p:=⟨w.heap.size+1,1,none⟩) (Kd.V_far (p:=⟨w.heap.size+1,0,none⟩) (HV6.out) (fun k hk e=>by have e2:k=w.heap.size+1:=e;omega) _) (fun k hk e=>by have e2:k=w.heap.size+1:=e;omega) _) (fun k hk e=>by have e2:k=w.heap.size+1:=e;omega) _) (fun k hk e=>by have e2:k=w.heap.size+1:=e;omega) _) (fun k hk e=>by have e2:k=w.heap.size+1:=e;omega) _) (fun k hk e=>by have e2:k=w.heap.size+1:=e;omega) _) (fun k hk e=>by have e2:k=w.heap.size+1:=e;omega) _) (fun k hk=>by omega),?_⟩
 have hb0:=HB.out
 exact below_setCells7 hb0
def auto_Norm.f (a0_0 a0_1:Int) (l0_2:List Int) (l0_3:List Int) (l0_4:List TOpen) (l0_5:List TClose) (l0_6:List TInner):Option (Int × Int × List Int × List Int × List TOpen × List TClose × List TInner):=
 if l0_2.length≤1000000000∧l0_3.length≤1000000000∧l0_4.length≤1000000000∧l0_5.length≤1000000000∧l0_6.length≤1000000000 then some (a0_0,a0_1,onceC cmpInt l0_2,onceC cmpInt l0_3,onceC cmpOpen l0_4,onceC cmpClose l0_5,onceC cmpInner l0_6) else none
theorem auto_Norm.calls (a0_0 a0_1:Int) (A0_2:Option Addr) (c0_2:Nat) (l0_2:List Int) (A0_3:Option Addr) (c0_3:Nat) (l0_3:List Int) (A0_4:Option Addr) (c0_4:Nat) (l0_4:List TOpen) (A0_5:Option Addr) (c0_5:Nat) (l0_5:List TClose) (A0_6:Option Addr) (c0_6:Nat) (l0_6:List TInner) (r1 r2:Int) (r3 r4:List Int) (r5:List TOpen) (r6:List TClose) (r7:List TInner) (w:World) (hr0_2:Kd.C (Kd.int .i64) w A0_2 l0_2.length l0_2) (hc0_2:l0_2.length≤c0_2) (hr0_3:Kd.C (Kd.int .i64) w A0_3 l0_3.length l0_3) (hc0_3:l0_3.length≤c0_3) (hr0_4:Kd.C k36 w A0_4 l0_4.length l0_4) (hc0_4:l0_4.length≤c0_4) (hr0_5:Kd.C k38 w A0_5 l0_5.length l0_5) (hc0_5:l0_5.length≤c0_5) (hr0_6:Kd.C k40 w A0_6 l0_6.length l0_6) (hc0_6:l0_6.length≤c0_6) (h:auto_Norm.f a0_0 a0_1 l0_2 l0_3 l0_4 l0_5 l0_6=some (r1,r2,r3,r4,r5,r6,r7)) :
 Calls Tryz.prog 25 #[.agg #[.int .i64 a0_0,.int .i64 a0_1,.slice A0_2 l0_2.length c0_2,.slice A0_3 l0_3.length c0_3,.slice A0_4 l0_4.length c0_4,.slice A0_5 l0_5.length c0_5,.slice A0_6 l0_6.length c0_6]] w fun e w'=>∃v2_ v3_ v4_ v5_ v6_:Value,e=.returned (.agg #[.int .i64 r1,.int .i64 r2,v2_,v3_,v4_,v5_,v6_])∧Kd.V (Kd.int .i64) 3 w' w.heap.size (fun k_=>w.heap.size≤k_) v2_ r3∧Kd.V (Kd.int .i64) 3 w' w.heap.size (fun k_=>w.heap.size≤k_) v3_ r4∧Kd.V k36 36 w' w.heap.size (fun k_=>w.heap.size≤k_) v4_ r5∧Kd.V k38 38 w' w.heap.size (fun k_=>w.heap.size≤k_) v5_ r6∧Kd.V k40 40 w' w.heap.size (fun k_=>w.heap.size≤k_) v6_ r7∧Below w.heap.size w w':=by
 unfold auto_Norm.f at h
 split at h
 case isFalse=>cases h
 rename_i hl
 obtain⟨q2,q3,q4,q5,q6⟩:=hl
 simp only [Option.some.injEq,Prod.mk.injEq] at h
 obtain⟨rfl,rfl,rfl,rfl,rfl,rfl,rfl⟩:=h
 refine(norm_own a0_0 a0_1 A0_2 c0_2 l0_2 A0_3 c0_3 l0_3 A0_4 c0_4 l0_4 A0_5 c0_5 l0_5 A0_6 c0_6 l0_6 w hr0_2 hc0_2 q2 hr0_3 hc0_3 q3 hr0_4 hc0_4 q4 hr0_5 hc0_5 q5 hr0_6 hc0_6 q6).mono ?_
 rintro e w' ⟨v2,v3,v4,v5,v6,rfl,q2,q3,q4,q5,q6,hb⟩
 exact⟨v2,v3,v4,v5,v6,rfl,q2,q3,q4,q5,q6,hb⟩
end Go.Proofs.YtejpijgfpbcibaaGreat.P
