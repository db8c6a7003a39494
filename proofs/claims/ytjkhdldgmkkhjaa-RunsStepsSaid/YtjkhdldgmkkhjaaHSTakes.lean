/- Words and walks of this claim: STakes. -/
import Derived.Test.YtjkhdldgmkkhjaaHMFar
import Derived.Test.YtjkhdldgmkkhjaaHMIntsEtc
import Derived.Test.YtjkhdldgmkkhjaaHSBack
set_option linter.unusedVariables false
set_option linter.unusedSimpArgs false
set_option linter.unnecessarySimpa false
namespace Go.Proofs.Ytjkhdldgmkkhjaa.P
open Go.RowKit Go.Proofs.YtjkhdldgmkkhjaaW.PrintWords Go.Proofs.YtjkhdldgmkkhjaaW.PrintLast Go.Proofs.YtjkhdldgmkkhjaaW.PrintMore Go.Proofs.Ytjkhdldgmkkhjaa.M
set_option maxHeartbeats 8000000 in
set_option maxRecDepth 100000 in
theorem runs_Takes.calls (A0:Option Addr) (c0:Nat) (l0:List TSym) (a1_0 a1_1:Int) (A1_2:Option Addr) (c1_2:Nat) (l1_2:List Int) (A1_3:Option Addr) (c1_3:Nat) (l1_3:List Int) (A1_4:Option Addr) (c1_4:Nat) (l1_4:List TOpen) (A1_5:Option Addr) (c1_5:Nat) (l1_5:List TClose) (A1_6:Option Addr) (c1_6:Nat) (l1_6:List TInner) (A2:Option Addr) (c2:Nat) (l2:List Int) (r:Bool) (w:World)
 (hr0:Kd.C k46 w A0 l0.length l0) (hc0:l0.length≤c0) (hr1_2:Kd.C (Kd.int .i64) w A1_2 l1_2.length l1_2) (hc1_2:l1_2.length≤c1_2) (hr1_3:Kd.C (Kd.int .i64) w A1_3 l1_3.length l1_3) (hc1_3:l1_3.length≤c1_3) (hr1_4:Kd.C k52 w A1_4 l1_4.length l1_4) (hc1_4:l1_4.length≤c1_4) (hr1_5:Kd.C k54 w A1_5 l1_5.length l1_5) (hc1_5:l1_5.length≤c1_5) (hr1_6:Kd.C k56 w A1_6 l1_6.length l1_6) (hc1_6:l1_6.length≤c1_6) (hr2:Kd.C (Kd.int .i64) w A2 l2.length l2) (hc2:l2.length≤c2)
 (h:runs_Takes.f l0 a1_0 a1_1 l1_2 l1_3 l1_4 l1_5 l1_6 l2=some r) :
 Calls Try.prog 23 #[.slice A0 l0.length c0,.agg #[.int .i64 a1_0,.int .i64 a1_1,.slice A1_2 l1_2.length c1_2,.slice A1_3 l1_3.length c1_3,.slice A1_4 l1_4.length c1_4,.slice A1_5 l1_5.length c1_5,.slice A1_6 l1_6.length c1_6],.slice A2 l2.length c2] w fun e w'=>e=.returned (.bool r)∧Below w.heap.size w w':=by
 have HR0:=Aside0.mk hr0
 have HR2:=Aside0.mk hr1_2
 have HR3:=Aside0.mk hr1_3
 have HR4:=Aside0.mk hr1_4
 have HR5:=Aside0.mk hr1_5
 have HR6:=Aside0.mk hr1_6
 have HR7:=Aside0.mk hr2
 have HS:Aside0 (l0.length≤1000000∧l1_2.length≤1000000∧l1_3.length≤1000000∧l1_4.length≤1000000∧l1_5.length≤1000000∧l1_6.length≤1000000∧l2.length≤1000000):=by
  unfold runs_Takes.f at h
  split at h
  ·exact⟨by assumption⟩
  cases h
 have HH:Aside0 (takesB l0 l1_2 l1_3 l1_4 l1_5 l1_6 l2=r):=by
  unfold runs_Takes.f at h
  rw [if_pos HS.out] at h
  exact⟨Option.some.inj h⟩
 have HC3:=Aside0.mk hc1_3
 clear hr0 hr1_2 hr1_3 hr1_4 hr1_5 hr1_6 hr2 h hc0 hc1_2 hc1_3 hc1_4 hc1_5 hc1_6 hc2
 have hmm:=@run_makeMap Try.prog
 go_enter Try.func23,Try.ntmps23
 go_wp2
 go_loopg [30] l1_2.length (fun n v30 w'=>∃(i:Int) (m:List ((Int × Int) × Int)),v30=.int .i64 i∧Aside0 (0≤i∧i≤l1_2.length)∧Aside0 (n=l1_2.length - i.toNat)∧
  Aside0 (MapIs ePair eOne w' (w.heap.size+1) m)∧Aside0 (∀p,p∈m.map (·.1)↔p∈(l1_2.take i.toNat).map fun s=>(s,s))∧
  Aside0 (w'.heap[w.heap.size]? = some (.cells #[.int .i64 a1_0,.int .i64 a1_1,.slice A1_2 l1_2.length c1_2,.slice A1_3 l1_3.length c1_3,.slice A1_4 l1_4.length c1_4,.slice A1_5 l1_5.length c1_5,.slice A1_6 l1_6.length c1_6] 30 (0,0)))∧
  Aside0 (w'.heap[w.heap.size+1+1]? = some (.cells #[.map (some (w.heap.size+1)),.int .i64 0] 76 (0,0)))∧Aside0 (Below w.heap.size w w'))
 case atStart=>
  exact⟨0,[],rfl,⟨by omega⟩,⟨by omega⟩,⟨(MapIs.madeAt ePair eOne (size_alloc _ _).symm).alloc _⟩,⟨by simp⟩,⟨blk_old (blk_old (blk_newAt _ rfl) _) _⟩,⟨blk_newAt _ (by rw [size_alloc,size_alloc])⟩,⟨by repeat (first|exact Below.refl _ _|apply below_alloc)⟩⟩
 case' round=>skip
 obtain⟨i,m,rfl,Hi,Hn,HM,Hm,H4,H7,HB⟩:=hrel
 by_cases hlt:i < (l1_2.length:Int)
 ·have c1 : decide (i < (l1_2.length : Int)) = true := decide_eq_true hlt
  obtain⟨ad,e1,hx⟩:=Kd.at_int HR2.out i Hi.out.1 hlt
  replace hx:=(HB.out.cell (World.block_lt_of_cell? w _ hx)).trans hx
  cases e1
  have p1:=eq_true Hi.out.1
  have q1:=eq_true hlt
  have w1_:wrap64 (i+1)=i+1:=by have:=Hi.out;have:=HS.out;unfold wrap64;omega
  clear hlt
  have k70:=(blk_cell H7.out 0).trans rfl
  have k71:=(blk_cell H7.out 1).trans rfl
  have k42:=(blk_cell H4.out 2).trans rfl
  go_wp2_with (at_mapUpdate;refine wp_update rfl _ _ _ _ rfl _ _ Try.underlying74 keyPair (w.heap.size+1) rfl HM.out (rd l1_2 i,rd l1_2 i) rfl (1:Int) rfl ?_;intro w1 hm1 hg1)
  go_roundg (l1_2.length - (i+1).toNat)
  case measure=>have:=Hi.out;have:=Hn.out;have:i < (l1_2.length:Int):=of_decide_eq_true c1;omega
  case' rel=>skip
  have hi:=Hi.out
  have hl:i < (l1_2.length:Int):=of_decide_eq_true c1
  refine⟨i+1,_,(by first|rfl|(simp;done)|(simp [*];done)),⟨by omega⟩,⟨rfl⟩,⟨hm1⟩,⟨fun p=>?_⟩,⟨blk_grown H4.out hg1 (by simp)⟩,⟨blk_grown H7.out hg1 (by simp)⟩,⟨below_gb HB.out hg1 (by rintro k ⟨rfl⟩;omega)⟩⟩
  rw [putM_keys,Hm.out p,take_next 0 _ i hi.1 hl,List.map_append,List.mem_append,or_comm]
  simp [rd]
 have c1 : decide (i < (l1_2.length : Int)) = false := decide_eq_false hlt
 have hi:i.toNat=l1_2.length:=by have:=Hi.out;omega
 have HM' : Aside0 (RowIs wr (w.heap.size+1) (l1_2.map fun s=>(s,s))):=⟨m,HM.out,fun p=>by rw [Hm.out p,hi,List.take_length]⟩
 clear hlt hi HM Hm
 go_wp2
 go_loopg [10,42] l2.length (fun n v10 v42 w'=>∃(i:Int) (row:Row) (by_:Int) (under:List (Row × Int)) (us:List (Nat × Int)) (gm:Nat),v42=.int .i64 i∧Aside0 (0≤i∧i≤l2.length)∧Aside0 (n=l2.length - i.toNat)∧
  Aside0 (RowIs w' gm row)∧Aside0 (w'.heap[w.heap.size+1+1]? = some (.cells #[.map (some gm),.int .i64 by_] 76 (0,0)))∧
  Aside0 (w'.heap[w.heap.size]? = some (.cells #[.int .i64 a1_0,.int .i64 a1_1,.slice A1_2 l1_2.length c1_2,.slice A1_3 l1_3.length c1_3,.slice A1_4 l1_4.length c1_4,.slice A1_5 l1_5.length c1_5,.slice A1_6 l1_6.length c1_6] 30 (0,0)))∧
  Aside0 (kLev.R 76 w' w.heap.size (fun k=>k≠w.heap.size+1+1) v10 us)∧Aside0 ((us.length:Int)≤i)∧Aside0 (Levs w' us.reverse under)∧
  Aside0 (goT l0 l1_4 l1_5 l1_6 (l2.drop i.toNat) row by_ under=goT l0 l1_4 l1_5 l1_6 l2 (l1_2.map fun s=>(s,s)) 0 [])∧Aside0 (Below w.heap.size w w')∧Aside0 (WithinL (tA l1_2 l1_4) (tB l1_2 l1_4 l1_5 l1_6) row∧∀v∈under,WithinL (tA l1_2 l1_4) (tB l1_2 l1_4 l1_5 l1_6) v.1))
 case atStart=>
  exact⟨0,_,0,[],[],_,rfl,⟨by omega⟩,⟨by omega⟩,HM',H7,H4,⟨Kd.R_nil _ _ _ _ _⟩,⟨by simp⟩,⟨trivial⟩,⟨rfl⟩,HB,⟨within_init,fun v hv=>by cases hv⟩⟩
 case' round=>skip
 clear HM' H7 H4 HB c1 Hi Hn
 obtain⟨i,row,by_,under,us,gm,rfl,Hi,Hn,HM,H7,H4,HU,Hu,HL,HG,HB,HQ⟩:=hrel
 obtain⟨wo,rfl⟩:∃wo:World,wo=wr:=⟨_,rfl⟩
 by_cases hlt:i < (l2.length:Int)
 ·have c1 : decide (i < (l2.length : Int)) = true := decide_eq_true hlt
  obtain⟨ad,e1,hx⟩:=Kd.at_int HR7.out i Hi.out.1 hlt
  replace hx:=(HB.out.cell (World.block_lt_of_cell? w _ hx)).trans hx
  cases e1
  have p1:=eq_true Hi.out.1
  have q1:=eq_true hlt
  have w1_:wrap64 (i+1)=i+1:=by have:=Hi.out;have:=HS.out;unfold wrap64;omega
  have HD:Aside0 (l2.drop i.toNat=rd l2 i :: l2.drop (i+1).toNat):=⟨drop_next 0 l2 i Hi.out.1 hlt⟩
  clear hlt
  obtain⟨k,hk⟩:∃k,k=rd l2 i:=⟨_,rfl⟩
  rw [←hk] at hx HD
  clear hk
  by_cases hk:0≤k∧k < (l0.length:Int)
  ·have c2 : decide (k < 0) = false := decide_eq_false (by omega)
   have c3:decide (k≥(l0.length:Int))=false:=decide_eq_false (by omega)
   have c4:decide ((l0.length:Int)≤k)=false:=decide_eq_false (by omega)
   have k70:wo.cell? ⟨w.heap.size+1+1,0,none⟩=some (.map (some gm)):=(blk_cell H7.out 0).trans rfl
   have k71:wo.cell? ⟨w.heap.size+1+1,1,none⟩=some (.int .i64 by_):=(blk_cell H7.out 1).trans rfl
   have hz7:=blk_lt H7.out
   have hz7b:w.heap.size+1 < wo.heap.size:=by omega
   obtain⟨ad2,e2,hy,hy1⟩:=at_T46 HR0.out k hk.1 hk.2
   replace hy1:=(HB.out.cell (World.block_lt_of_cell? w _ hy1)).trans hy1
   clear hy
   have hzk:=World.block_lt_of_cell? wo _ hy1
   cases e2
   have p2:=eq_true hk.1
   have q2:=eq_true hk.2
   have HK:=Aside0.mk hk
   have HG':=Aside0.mk (HD.out ▸ HG.out)
   clear HG hk
   by_cases kd1:(rd_T46 l0 k).f1=1
   ·have d1 : ((rd_T46 l0 k).f1 == 1) = true := beq_iff_eq.mpr kd1
    have HG:=Aside0.mk ((goT_open HK.out kd1).symm.trans HG'.out)
    clear HG' kd1
    have HM':=HM
    obtain⟨mg,HMg,Hmg⟩:=HM.out
    have HMg':=Aside0.mk HMg
    have Hmg':=Aside0.mk Hmg
    clear HMg Hmg
    go_wp2_with (at_range;refine wp_range rfl _ _ rfl _ _ Try.underlying74 gm rfl ((HMg'.out.alloc _).alloc _) (wo.heap.size+1+1) (by rw [size_alloc,size_alloc]) ?_;intro w1 hit1 hg1)
    obtain⟨W0,hW0⟩:∃W0:World,W0=(wo.alloc (.map #[] 0)).alloc (.cells #[.map (some wo.heap.size),.int .i64 by_] 76):=⟨_,rfl⟩
    have HN:=Aside0.mk ((hW0 ▸ (MapIs.madeAt ePair eOne rfl).alloc _:MapIs ePair eOne W0 wo.heap.size ([]:List ((Int × Int) × Int))))
    have H13:=Aside0.mk ((hW0 ▸ blk_newAt _ (size_alloc _ _).symm:W0.heap[wo.heap.size+1]? = some (.cells #[.map (some wo.heap.size),.int .i64 by_] 76 (0,0))))
    have HW:=Aside0.mk ((hW0 ▸ gb_alloc (gb_alloc (gb_refl wo none) _) _:wo.grownBy W0 none))
    have hzW0:W0.heap.size=wo.heap.size+1+1:=by rw [hW0,size_alloc,size_alloc]
    rw [←hW0] at hg1
    skip
    clear hW0
    have hzW:=Aside0.mk hzW0
    clear hzW0
    go_loopg [] mg.length (fun n w'=>∃(left done:List ((Int × Int) × Int)) (mn:List ((Int × Int) × Int)),Aside0 (n=left.length)∧Aside0 (mg.Perm (done ++ left))∧Aside0 (IterIs ePair eOne w' (wo.heap.size+1+1) gm mg left)∧
     Aside0 (MapIs ePair eOne w' wo.heap.size mn)∧Aside0 (∀p,p∈mn.map (·.1)↔p∈nOpen l1_4 k (done.map (·.1)))∧Aside0 (W0.grownBy w' (some wo.heap.size)))
    case atStart=>exact⟨mg,[],[],⟨rfl⟩,⟨List.Perm.refl _⟩,⟨hit1⟩,⟨HN.out.grown hg1 (by simp)⟩,⟨by simp [nOpen]⟩,⟨gb_none hg1 _⟩⟩
    case' round=>skip
    obtain⟨left,done,mn,Hn1,Hp,HI,HMn,Hmn,Hg⟩:=hrel
    have H4r:=Aside0.mk (blk_grown (blk_grown H4.out HW.out nen) Hg.out (nes (by omega)))
    have H7r:=Aside0.mk (blk_grown (blk_grown H7.out HW.out nen) Hg.out (nes (by omega)))
    have H13r:=Aside0.mk (blk_grown H13.out Hg.out (nes (by omega)))
    have k44:wr.cell? ⟨w.heap.size,4,none⟩=some (.slice A1_4 l1_4.length c1_4):=(blk_cell H4r.out 4).trans rfl
    have k70:wr.cell? ⟨w.heap.size+1+1,0,none⟩=some (.map (some gm)):=(blk_cell H7r.out 0).trans rfl
    have k71:wr.cell? ⟨w.heap.size+1+1,1,none⟩=some (.int .i64 by_):=(blk_cell H7r.out 1).trans rfl
    have hz8:=blk_lt H4r.out
    have hz8b:=blk_lt H7r.out
    have HBr:=Aside0.mk (below_gb (below_gb HB.out HW.out (by rintro k ⟨⟩)) Hg.out (by rintro k ⟨rfl⟩;omega))
    have HUr:=Aside0.mk (R_beside (Kd.R_step (Kd.R_elderB HU.out (wo.heap.size+1) (by omega)) (fun k _ hk=>HW.out.block k hk nen)) HN.out.isMap Hg.out)
    go_wp2_with (first
     | (at_next;go_loud (refine wp_next rfl _ rfl _ rfl HI.out ?dn1 ?mr1);(case' dn1=>intro hl0;have HL0:=Aside0.mk hl0;clear hl0);(case' mr1=>rintro⟨⟨pa,pb⟩,pv⟩ left2 w2 hp2 hi2 hg2 hen;simp only [ePair,eOne] at hen;replace k44:=gb_cell hg2 k44 (nes (by show w.heap.size≠_;omega));replace hz8:w.heap.size < w2.heap.size:=Nat.lt_of_lt_of_le hz8 hg2.size))
     | ((with_reducible refine gate_builtin (b:=.append) (xs:=#[.tmp 131,.tmp 133]) rfl ?_);at_builtin;go_loud (refine Kd.R_append kLev (w0:=w) w.heap.size rfl (.tmp 131) (.tmp 133) 79 76 (.agg #[.map none,.int .i64 0]) 16 rfl Try.underlying79 infoLev rfl (by decide) (by omega) u10 us (gm,by_) [.map (some gm),.int .i64 by_] (fun k=>k≠w.heap.size+1+1∧k≠wo.heap.size+1) (fun _=>False) rfl rfl ?aP (fun _ hk=>hk.elim) ?aF ?aO ?aB ?aS ?aL ?_;(case aP=>exact⟨_,_,rfl,rfl,rfl⟩);(case aB=>exact HBr.out);(case aF=>exact(fun k hk=>⟨by omega,by have:=blk_lt H13r.out;omega⟩));(case aO=>exact HUr.out);(case aS=>exact below_size HBr.out);(case aL=>have:=Hu.out;have:=Hi.out;have:=HS.out;omega);intro v9 w9 ho hb hg9 hat;have H7q:=Aside0.mk (blk_grown H7r.out hg9 (fun e=>(HUr.out.1 _ e.symm).1 rfl));have H13q:=Aside0.mk (blk_grown H13r.out hg9 (fun e=>(HUr.out.1 _ e.symm).2 rfl));have k70:w9.cell? ⟨w.heap.size+1+1,0,none⟩=some (.map (some gm)):=(blk_cell H7q.out 0).trans rfl;have k71:w9.cell? ⟨w.heap.size+1+1,1,none⟩=some (.int .i64 by_):=(blk_cell H7q.out 1).trans rfl;have k130:w9.cell? ⟨wo.heap.size+1,0,none⟩=some (.map (some wo.heap.size)):=(blk_cell H13q.out 0).trans rfl;have k131:w9.cell? ⟨wo.heap.size+1,1,none⟩=some (.int .i64 by_):=(blk_cell H13q.out 1).trans rfl;have f70:=blk_frozen H7q.out 0;have f71:=blk_frozen H7q.out 1;have f130:=blk_frozen H13q.out 0;have f131:=blk_frozen H13q.out 1;have HO:=Aside0.mk ho;have HB9:=Aside0.mk hb;have HG9:=Aside0.mk hg9;clear ho hb hg9 hat)))
    ·have HI2 := Aside0.mk hi2
     have Hp2:=Aside0.mk hp2
     have Hg2:=Aside0.mk hg2
     have HM2:=Aside0.mk (HMn.out.grown hg2 (nes (by omega)))
     clear hi2 hp2 hg2 hen k44
     have HP2:=Aside0.mk (blk_newAt (w:=w2) (n:=w2.heap.size) (.cells #[.int .i64 pa,.int .i64 pb] 78) rfl)
     go_loopg [108] l1_4.length (fun n v108 w'=>∃(j:Int) (m2:List ((Int × Int) × Int)),v108=.int .i64 j∧Aside0 (0≤j∧j≤l1_4.length)∧Aside0 (n=l1_4.length - j.toNat)∧
      Aside0 (MapIs ePair eOne w' wo.heap.size m2)∧Aside0 (∀p,p∈m2.map (·.1)↔p∈nOpen l1_4 k (done.map (·.1))∨p∈nOpen (l1_4.take j.toNat) k [(pa,pb)])∧
      Aside0 (w2.grownBy w' (some wo.heap.size))∧Aside0 (w'.heap[w2.heap.size]? = some (.cells #[.int .i64 pa,.int .i64 pb] 78 (0,0))))
     case atStart=>exact⟨0,mn,rfl,⟨by omega⟩,⟨by omega⟩,⟨HM2.out.alloc _⟩,⟨fun p=>by rw [Hmn.out p];simp [nOpen]⟩,⟨gb_alloc (gb_refl _ _) _⟩,HP2⟩
     case' round=>skip
     clear HP2
     obtain⟨j,m2,rfl,Hj,Hnj,HM3,Hm3,Hg3,HP3⟩:=hrel
     have hz9:wo.heap.size+1 < wr.heap.size:=by have:=Hg3.out.size;have:=Hg2.out.size;have:=Hg.out.size;have:=hzW.out;omega
     have hz9b:w2.heap.size < wr.heap.size:=blk_lt HP3.out
     by_cases hlt:j < (l1_4.length:Int)
     ·have d1 : decide (j < (l1_4.length : Int)) = true := decide_eq_true hlt
      have HB3:Aside0 (Below w.heap.size w wr):=⟨below_gb (below_gb HBr.out Hg2.out (by rintro k ⟨rfl⟩;omega)) Hg3.out (by rintro k ⟨rfl⟩;omega)⟩
      obtain⟨ad3,e3,hr0,hr1,hr2,hr3⟩:=at_T52 HR4.out j Hj.out.1 hlt
      replace hr0:=(HB3.out.cell (World.block_lt_of_cell? w _ hr0)).trans hr0
      replace hr1:=(HB3.out.cell (World.block_lt_of_cell? w _ hr1)).trans hr1
      replace hr2:=(HB3.out.cell (World.block_lt_of_cell? w _ hr2)).trans hr2
      replace hr3:=(HB3.out.cell (World.block_lt_of_cell? w _ hr3)).trans hr3
      cases e3
      have p1:=eq_true Hj.out.1
      have q1:=eq_true hlt
      have w1_:wrap64 (j+1)=j+1:=by have:=Hj.out;have:=HS.out;unfold wrap64;omega
      have k140:wr.cell? ⟨w2.heap.size,0,none⟩=some (.int .i64 pa):=(blk_cell HP3.out 0).trans rfl
      have k141:wr.cell? ⟨w2.heap.size,1,none⟩=some (.int .i64 pb):=(blk_cell HP3.out 1).trans rfl
      have k13:wr.cell? ⟨wo.heap.size+1,0,none⟩=some (.map (some wo.heap.size)):=(blk_cell (blk_grown (blk_grown H13r.out Hg2.out (nes (by omega))) Hg3.out (nes (by omega))) 0).trans rfl
      clear hlt
      by_cases g1:(rd_T52 l1_4 j).f0=pb
      ·have d2 : ((rd_T52 l1_4 j).f0 == pb) = true := beq_iff_eq.mpr g1
       by_cases g2:(rd_T52 l1_4 j).f1=k
       ·have d3 : ((rd_T52 l1_4 j).f1 == k) = true := beq_iff_eq.mpr g2
        have Hgg:=Aside0.mk (And.intro g1 g2)
        clear g1 g2
        go_wp2_with (at_mapUpdate;refine wp_update rfl _ _ _ _ rfl _ _ Try.underlying74 keyPair wo.heap.size rfl (HM3.out.alloc _) ((rd_T52 l1_4 j).f2,(rd_T52 l1_4 j).f2) rfl (1:Int) rfl ?_;intro w3 hm3 hg3)
        go_roundg (l1_4.length - (j+1).toNat)
        case measure=>have:=Hj.out;have:=Hnj.out;have:j < (l1_4.length:Int):=of_decide_eq_true d1;omega
        case' rel=>skip
        have hj:=Hj.out
        have hl:j < (l1_4.length:Int):=of_decide_eq_true d1
        refine⟨j+1,_,rfl,⟨by omega⟩,⟨rfl⟩,⟨hm3⟩,⟨fun p=>?_⟩,⟨gb_trans (gb_alloc Hg3.out _) hg3⟩,⟨blk_grown (blk_old HP3.out _) hg3 (nes (by have:=blk_lt HP3.out;have:=hzW.out;have:=Hg.out.size;have:=Hg2.out.size;omega))⟩⟩
        rw [putM_keys,Hm3.out p,nOpen_next l1_4 k (pa,pb) j hj.1 hl,if_pos Hgg.out]
        simp only [List.mem_append,List.mem_singleton]
        constructor
        ·rintro (h | h | h)
         ·exact .inr (.inr h)
         ·exact .inl h
         exact .inr (.inl h)
        rintro (h | h | h)
        ·exact .inr (.inl h)
        ·exact .inr (.inr h)
        exact .inl h
       have d3 : ((rd_T52 l1_4 j).f1 == k) = false := beq_eq_false_iff_ne.mpr g2
       have Hgg:Aside0 (¬((rd_T52 l1_4 j).f0=pb∧(rd_T52 l1_4 j).f1=k)):=⟨fun e=>g2 e.2⟩
       clear g1 g2
       go_wp2
       go_roundg (l1_4.length - (j+1).toNat)
       case measure=>have:=Hj.out;have:=Hnj.out;have:j < (l1_4.length:Int):=of_decide_eq_true d1;omega
       case' rel=>skip
       have hj:=Hj.out
       have hl:j < (l1_4.length:Int):=of_decide_eq_true d1
       refine⟨j+1,m2,rfl,⟨by omega⟩,⟨rfl⟩,⟨HM3.out.alloc _⟩,⟨fun p=>?_⟩,⟨gb_alloc Hg3.out _⟩,⟨blk_old HP3.out _⟩⟩
       rw [Hm3.out p,nOpen_next l1_4 k (pa,pb) j hj.1 hl,if_neg Hgg.out]
       simp
      have d2 : ((rd_T52 l1_4 j).f0 == pb) = false := beq_eq_false_iff_ne.mpr g1
      have Hgg:Aside0 (¬((rd_T52 l1_4 j).f0=pb∧(rd_T52 l1_4 j).f1=k)):=⟨fun e=>g1 e.1⟩
      clear g1
      go_wp2
      go_roundg (l1_4.length - (j+1).toNat)
      case measure=>have:=Hj.out;have:=Hnj.out;have:j < (l1_4.length:Int):=of_decide_eq_true d1;omega
      case' rel=>skip
      have hj:=Hj.out
      have hl:j < (l1_4.length:Int):=of_decide_eq_true d1
      refine⟨j+1,m2,rfl,⟨by omega⟩,⟨rfl⟩,⟨HM3.out.alloc _⟩,⟨fun p=>?_⟩,⟨gb_alloc Hg3.out _⟩,⟨blk_old HP3.out _⟩⟩
      rw [Hm3.out p,nOpen_next l1_4 k (pa,pb) j hj.1 hl,if_neg Hgg.out]
      simp
     have d1 : decide (j < (l1_4.length : Int)) = false := decide_eq_false hlt
     have hj:j.toNat=l1_4.length:=by have:=Hj.out;omega
     have HJ:=Aside0.mk hj
     clear hlt hj
     go_wp2
     go_roundg left2.length
     case measure=>have:=Hn1.out;have:=Hp2.out.length_eq;simp at this;omega
     case' rel=>skip
     have hz10:=HMg'.out.lt
     have hzq:=hzW.out
     refine⟨left2,done ++ [((pa,pb),pv)],m2,⟨rfl⟩,⟨?_⟩,⟨HI2.out.grown Hg3.out (nes (by omega)) (nes (by omega))⟩,HM3,⟨fun p=>?_⟩,⟨gb_trans (gb_new Hg.out Hg2.out (by omega)) Hg3.out⟩⟩
     ·rw [List.append_assoc]
      exact Hp.out.trans (Hp2.out.append_left done)
     rw [Hm3.out p, HJ.out, List.take_length, List.map_append, List.map_cons, List.map_nil, nOpen_snoc]
     simp
    go_roundg (l2.length - (i + 1).toNat)
    case measure=>have:=Hi.out;have:=Hn.out;have:i < (l2.length:Int):=of_decide_eq_true c1;omega
    case' rel=>skip
    have hi:=Hi.out
    have hl:i < (l2.length:Int):=of_decide_eq_true c1
    have hz13:=blk_lt H13q.out
    have hl9:=below_size HB9.out
    have hdone:done.length=mg.length∧left = []:=by have:=Hp.out.length_eq;rw [HL0.out] at this;exact⟨by simpa using this.symm,HL0.out⟩
    have carry:∀b rw_,RowIs wo b rw_→RowIs _ b rw_:=fun b rw_ hb=>by
     have b1:=hb.move (HW.out.block b hb.lt nen)
     have b2:=b1.move (Hg.out.block b b1.lt (nes (Nat.ne_of_lt hb.lt)))
     have b3:=b2.move (HG9.out.block b b2.lt (R_notmap HUr.out b2.isMap))
     have n1:b≠wo.heap.size+1:=by have:=hb.lt;omega
     have n2:b≠w.heap.size+1+1:=map_ne_cells hb.isMap H7.out
     exact((b3.move (Below.heap_setCell w9 ⟨wo.heap.size+1,1,none⟩ (.int .i64 k) b n1)).move (Below.heap_setCell _ ⟨w.heap.size+1+1,0,none⟩ (.map (some wo.heap.size)) b n2)).move (Below.heap_setCell _ ⟨w.heap.size+1+1,1,none⟩ (.int .i64 k) b n2)
    have hrow:RowIs wr wo.heap.size (nOpen l1_4 k row):=⟨mn,HMn.out,fun p=>by
     rw [Hmn.out p]
     unfold nOpen
     simp only [List.mem_flatMap]
     constructor
     ·rintro ⟨q, hq, hq2⟩
      exact⟨q,(Hmg'.out q).1 (((Hp.out.map (·.1)).mem_iff).2 (by rw [List.map_append];exact List.mem_append_left _ hq)),hq2⟩
     rintro ⟨q, hq, hq2⟩
     have:=((Hp.out.map (·.1)).mem_iff).1 ((Hmg'.out q).2 hq)
     rw [hdone.2,List.append_nil] at this
     exact⟨q,this,hq2⟩⟩
    have hrow9:=hrow.move (HG9.out.block _ hrow.lt (R_notmap HUr.out hrow.isMap))
    refine⟨i+1,nOpen l1_4 k row,k,(row,by_) :: under,us ++ [(gm,by_)],wo.heap.size,rfl,⟨by omega⟩,⟨rfl⟩,⟨?_⟩,⟨?_⟩,⟨?_⟩,⟨?_⟩,⟨by have:=Hu.out;simp;omega⟩,⟨?_⟩,⟨HG.out⟩,⟨?_⟩,⟨within_open,fun v hv=>by rcases List.mem_cons.1 hv with rfl|hv;exact HQ.out.1;exact HQ.out.2 v hv⟩⟩
    ·exact((hrow9.move (Below.heap_setCell w9 ⟨wo.heap.size+1,1,none⟩ (.int .i64 k) _ (by show wo.heap.size≠wo.heap.size+1;omega))).move (Below.heap_setCell _ ⟨w.heap.size+1+1,0,none⟩ (.map (some wo.heap.size)) _ (by show wo.heap.size≠w.heap.size+1+1;omega))).move (Below.heap_setCell _ ⟨w.heap.size+1+1,1,none⟩ (.int .i64 k) _ (by show wo.heap.size≠w.heap.size+1+1;omega))
    ·exact blk_put (blk_put (blk_far H7q.out (by show w.heap.size+1+1≠wo.heap.size+1;omega) _) 0 _ rfl) 1 _ rfl
    ·exact blk_far (blk_far (blk_far (blk_grown H4r.out HG9.out (Kd.R_ne HUr.out H4r.out (by decide))) (by show w.heap.size≠wo.heap.size+1;omega) _) (by show w.heap.size≠w.heap.size+1+1;omega) _) (by show w.heap.size≠w.heap.size+1+1;omega) _
    ·exact Kd.R_mono (Kd.R_far (p:=⟨w.heap.size+1+1,1,none⟩) (Kd.R_far (p:=⟨w.heap.size+1+1,0,none⟩) (Kd.R_far (p:=⟨wo.heap.size+1,1,none⟩) HO.out (fun _ hk=>hk.2) _) (fun _ hk=>hk.1) _) (fun _ hk=>hk.1) _) (fun _ hk=>hk.1)
    ·rw [List.reverse_append]
     exact⟨carry _ _ HM'.out,rfl,Levs.imp carry _ _ HL.out⟩
    exact below_set (below_set (below_set HB9.out (by omega)) (by omega)) (by omega)
   have d1 : ((rd_T46 l0 k).f1 == 1) = false := beq_eq_false_iff_ne.mpr kd1
   by_cases kd2:(rd_T46 l0 k).f1=2
   ·have d2_ : ((rd_T46 l0 k).f1 == 2) = true := beq_iff_eq.mpr kd2
    obtain⟨AU,cU,eU⟩:=Kd.R_slice HU.out
    subst eU
    rcases hrv:us.reverse with _|⟨u,r⟩
    ·have HL' := Aside0.mk (hrv ▸ HL.out)
     obtain rfl:us = []:=by simpa using hrv
     clear hrv HL'
     cases under with
     | cons u under=>exact HL.out.elim
     | nil=>
      have HG:=Aside0.mk ((goT_close0 HK.out kd2).symm.trans HG'.out)
      clear HG' kd1 kd2
      have HM':=HM
      obtain⟨mg,HMg,Hmg⟩:=HM.out
      have HMg':=Aside0.mk HMg
      have Hmg':=Aside0.mk Hmg
      clear HMg Hmg
      go_wp2_with (at_range;refine wp_range rfl _ _ rfl _ _ Try.underlying74 gm rfl ((HMg'.out.alloc _).alloc _) (wo.heap.size+1+1) (by rw [size_alloc,size_alloc]) ?_;intro w1 hit1 hg1)
      obtain⟨W0,hW0⟩:∃W0:World,W0=(wo.alloc (.map #[] 0)).alloc (.cells #[.map (some wo.heap.size),.int .i64 by_] 76):=⟨_,rfl⟩
      have HN:=Aside0.mk ((hW0 ▸ (MapIs.madeAt ePair eOne rfl).alloc _:MapIs ePair eOne W0 wo.heap.size ([]:List ((Int × Int) × Int))))
      have H13:=Aside0.mk ((hW0 ▸ blk_newAt _ (size_alloc _ _).symm:W0.heap[wo.heap.size+1]? = some (.cells #[.map (some wo.heap.size),.int .i64 by_] 76 (0,0))))
      have HW:=Aside0.mk ((hW0 ▸ gb_alloc (gb_alloc (gb_refl wo none) _) _:wo.grownBy W0 none))
      have hzW0:W0.heap.size=wo.heap.size+1+1:=by rw [hW0,size_alloc,size_alloc]
      rw [←hW0] at hg1
      skip
      clear hW0
      have hzW:=Aside0.mk hzW0
      clear hzW0
      go_loopg [] mg.length (fun n w'=>∃(left done:List ((Int × Int) × Int)) (mn:List ((Int × Int) × Int)),Aside0 (n=left.length)∧Aside0 (mg.Perm (done ++ left))∧Aside0 (IterIs ePair eOne w' (wo.heap.size+1+1) gm mg left)∧
       Aside0 (MapIs ePair eOne w' wo.heap.size mn)∧Aside0 (∀p,p∈mn.map (·.1)↔p∈nClose l1_5 k (done.map (·.1)))∧Aside0 (W0.grownBy w' (some wo.heap.size)))
      case atStart=>exact⟨mg,[],[],⟨rfl⟩,⟨List.Perm.refl _⟩,⟨hit1⟩,⟨HN.out.grown hg1 (by simp)⟩,⟨by simp [nClose]⟩,⟨gb_none hg1 _⟩⟩
      case' round=>skip
      obtain⟨left,done,mn,Hn1,Hp,HI,HMn,Hmn,Hg⟩:=hrel
      have H4r:=Aside0.mk (blk_grown (blk_grown H4.out HW.out nen) Hg.out (nes (by omega)))
      have H7r:=Aside0.mk (blk_grown (blk_grown H7.out HW.out nen) Hg.out (nes (by omega)))
      have H13r:=Aside0.mk (blk_grown H13.out Hg.out (nes (by omega)))
      have k44:wr.cell? ⟨w.heap.size,5,none⟩=some (.slice A1_5 l1_5.length c1_5):=(blk_cell H4r.out 5).trans rfl
      have k70:wr.cell? ⟨w.heap.size+1+1,0,none⟩=some (.map (some gm)):=(blk_cell H7r.out 0).trans rfl
      have k71:wr.cell? ⟨w.heap.size+1+1,1,none⟩=some (.int .i64 by_):=(blk_cell H7r.out 1).trans rfl
      have hz8:=blk_lt H4r.out
      have hz8b:=blk_lt H7r.out
      have HBr:=Aside0.mk (below_gb (below_gb HB.out HW.out (by rintro k ⟨⟩)) Hg.out (by rintro k ⟨rfl⟩;omega))
      have k130:wr.cell? ⟨wo.heap.size+1,0,none⟩=some (.map (some wo.heap.size)):=(blk_cell H13r.out 0).trans rfl
      have k131:wr.cell? ⟨wo.heap.size+1,1,none⟩=some (.int .i64 by_):=(blk_cell H13r.out 1).trans rfl
      have f70:=blk_frozen H7r.out 0
      have f71:=blk_frozen H7r.out 1
      have HUr:=Aside0.mk (R_beside (Kd.R_step (Kd.R_elderB HU.out (wo.heap.size+1) (by omega)) (fun k _ hk=>HW.out.block k hk nen)) HN.out.isMap Hg.out)
      go_wp2_with (first
       | (at_next;go_loud (refine wp_next rfl _ rfl _ rfl HI.out ?dn2 ?mr2);(case' dn2=>intro hl0;have HL0:=Aside0.mk hl0;clear hl0);(case' mr2=>rintro⟨⟨pa,pb⟩,pv⟩ left2 w2 hp2 hi2 hg2 hen;simp only [ePair,eOne] at hen;replace k44:=gb_cell hg2 k44 (nes (by show w.heap.size≠_;omega));replace hz8:w.heap.size < w2.heap.size:=Nat.lt_of_lt_of_le hz8 hg2.size)))
      ·have HI2 := Aside0.mk hi2
       have Hp2:=Aside0.mk hp2
       have Hg2:=Aside0.mk hg2
       have HM2:=Aside0.mk (HMn.out.grown hg2 (nes (by omega)))
       clear hi2 hp2 hg2 hen k44 k130 k131 f70 f71
       have HP2:=Aside0.mk (blk_newAt (w:=w2) (n:=w2.heap.size) (.cells #[.int .i64 pa,.int .i64 pb] 78) rfl)
       go_loopg [166] l1_5.length (fun n v166 w'=>∃(j:Int) (m2:List ((Int × Int) × Int)),v166=.int .i64 j∧Aside0 (0≤j∧j≤l1_5.length)∧Aside0 (n=l1_5.length - j.toNat)∧
        Aside0 (MapIs ePair eOne w' wo.heap.size m2)∧Aside0 (∀p,p∈m2.map (·.1)↔p∈nClose l1_5 k (done.map (·.1))∨p∈nClose (l1_5.take j.toNat) k [(pa,pb)])∧
        Aside0 (w2.grownBy w' (some wo.heap.size))∧Aside0 (w'.heap[w2.heap.size]? = some (.cells #[.int .i64 pa,.int .i64 pb] 78 (0,0))))
       case atStart=>exact⟨0,mn,rfl,⟨by omega⟩,⟨by omega⟩,⟨HM2.out.alloc _⟩,⟨fun p=>by rw [Hmn.out p];simp [nClose]⟩,⟨gb_alloc (gb_refl _ _) _⟩,HP2⟩
       case' round=>skip
       clear HP2
       obtain⟨j,m2,rfl,Hj,Hnj,HM3,Hm3,Hg3,HP3⟩:=hrel
       have hz9:wo.heap.size+1 < wr.heap.size:=by have:=Hg3.out.size;have:=Hg2.out.size;have:=Hg.out.size;have:=hzW.out;omega
       have hz9b:w2.heap.size < wr.heap.size:=blk_lt HP3.out
       by_cases hlt:j < (l1_5.length:Int)
       ·have d1 : decide (j < (l1_5.length : Int)) = true := decide_eq_true hlt
        have HB3:Aside0 (Below w.heap.size w wr):=⟨below_gb (below_gb HBr.out Hg2.out (by rintro k ⟨rfl⟩;omega)) Hg3.out (by rintro k ⟨rfl⟩;omega)⟩
        obtain⟨ad3,e3,hr0,hr1,hr2,hr3⟩:=at_T54 HR5.out j Hj.out.1 hlt
        replace hr0:=(HB3.out.cell (World.block_lt_of_cell? w _ hr0)).trans hr0
        replace hr1:=(HB3.out.cell (World.block_lt_of_cell? w _ hr1)).trans hr1
        replace hr2:=(HB3.out.cell (World.block_lt_of_cell? w _ hr2)).trans hr2
        replace hr3:=(HB3.out.cell (World.block_lt_of_cell? w _ hr3)).trans hr3
        cases e3
        have p1:=eq_true Hj.out.1
        have q1:=eq_true hlt
        have w1_:wrap64 (j+1)=j+1:=by have:=Hj.out;have:=HS.out;unfold wrap64;omega
        have k140:wr.cell? ⟨w2.heap.size,0,none⟩=some (.int .i64 pa):=(blk_cell HP3.out 0).trans rfl
        have k141:wr.cell? ⟨w2.heap.size,1,none⟩=some (.int .i64 pb):=(blk_cell HP3.out 1).trans rfl
        have k13:wr.cell? ⟨wo.heap.size+1,0,none⟩=some (.map (some wo.heap.size)):=(blk_cell (blk_grown (blk_grown H13r.out Hg2.out (nes (by omega))) Hg3.out (nes (by omega))) 0).trans rfl
        clear hlt
        by_cases g1:(rd_T54 l1_5 j).f0=pb
        ·have d2 : ((rd_T54 l1_5 j).f0 == pb) = true := beq_iff_eq.mpr g1
         by_cases g2:(rd_T54 l1_5 j).f1=k
         ·have d3 : ((rd_T54 l1_5 j).f1 == k) = true := beq_iff_eq.mpr g2
          by_cases g3:(rd_T54 l1_5 j).f2=0
          ·have d4 : ((rd_T54 l1_5 j).f2 == 0) = true := beq_iff_eq.mpr g3
           have Hgg:=Aside0.mk (And.intro g1 (And.intro g2 g3))
           clear g1 g2 g3
           go_wp2_with (at_mapUpdate;refine wp_update rfl _ _ _ _ rfl _ _ Try.underlying74 keyPair wo.heap.size rfl (HM3.out.alloc _) (pa,(rd_T54 l1_5 j).f3) rfl (1:Int) rfl ?_;intro w3 hm3 hg3)
           go_roundg (l1_5.length - (j+1).toNat)
           case measure=>have:=Hj.out;have:=Hnj.out;have:j < (l1_5.length:Int):=of_decide_eq_true d1;omega
           case' rel=>skip
           have hj:=Hj.out
           have hl:j < (l1_5.length:Int):=of_decide_eq_true d1
           refine⟨j+1,_,rfl,⟨by omega⟩,⟨rfl⟩,⟨hm3⟩,⟨fun p=>?_⟩,⟨gb_trans (gb_alloc Hg3.out _) hg3⟩,⟨blk_grown (blk_old HP3.out _) hg3 (nes (by have:=blk_lt HP3.out;have:=hzW.out;have:=Hg.out.size;have:=Hg2.out.size;omega))⟩⟩
           rw [putM_keys,Hm3.out p,nClose_next l1_5 k (pa,pb) j hj.1 hl,if_pos Hgg.out]
           simp only [List.mem_append,List.mem_singleton]
           constructor
           ·rintro (h | h | h)
            ·exact .inr (.inr h)
            ·exact .inl h
            exact .inr (.inl h)
           rintro (h | h | h)
           ·exact .inr (.inl h)
           ·exact .inr (.inr h)
           exact .inl h
          have d4 : ((rd_T54 l1_5 j).f2 == 0) = false := beq_eq_false_iff_ne.mpr g3
          have Hgg:Aside0 (¬((rd_T54 l1_5 j).f0=pb∧(rd_T54 l1_5 j).f1=k∧(rd_T54 l1_5 j).f2=0)):=⟨fun e=>g3 e.2.2⟩
          clear g1 g2 g3
          go_wp2
          go_roundg (l1_5.length - (j+1).toNat)
          case measure=>have:=Hj.out;have:=Hnj.out;have:j < (l1_5.length:Int):=of_decide_eq_true d1;omega
          case' rel=>skip
          have hj:=Hj.out
          have hl:j < (l1_5.length:Int):=of_decide_eq_true d1
          refine⟨j+1,m2,rfl,⟨by omega⟩,⟨rfl⟩,⟨HM3.out.alloc _⟩,⟨fun p=>?_⟩,⟨gb_alloc Hg3.out _⟩,⟨blk_old HP3.out _⟩⟩
          rw [Hm3.out p,nClose_next l1_5 k (pa,pb) j hj.1 hl,if_neg Hgg.out]
          simp
         have d3 : ((rd_T54 l1_5 j).f1 == k) = false := beq_eq_false_iff_ne.mpr g2
         have Hgg:Aside0 (¬((rd_T54 l1_5 j).f0=pb∧(rd_T54 l1_5 j).f1=k∧(rd_T54 l1_5 j).f2=0)):=⟨fun e=>g2 e.2.1⟩
         clear g1 g2
         go_wp2
         go_roundg (l1_5.length - (j+1).toNat)
         case measure=>have:=Hj.out;have:=Hnj.out;have:j < (l1_5.length:Int):=of_decide_eq_true d1;omega
         case' rel=>skip
         have hj:=Hj.out
         have hl:j < (l1_5.length:Int):=of_decide_eq_true d1
         refine⟨j+1,m2,rfl,⟨by omega⟩,⟨rfl⟩,⟨HM3.out.alloc _⟩,⟨fun p=>?_⟩,⟨gb_alloc Hg3.out _⟩,⟨blk_old HP3.out _⟩⟩
         rw [Hm3.out p,nClose_next l1_5 k (pa,pb) j hj.1 hl,if_neg Hgg.out]
         simp
        have d2 : ((rd_T54 l1_5 j).f0 == pb) = false := beq_eq_false_iff_ne.mpr g1
        have Hgg:Aside0 (¬((rd_T54 l1_5 j).f0=pb∧(rd_T54 l1_5 j).f1=k∧(rd_T54 l1_5 j).f2=0)):=⟨fun e=>g1 e.1⟩
        clear g1
        go_wp2
        go_roundg (l1_5.length - (j+1).toNat)
        case measure=>have:=Hj.out;have:=Hnj.out;have:j < (l1_5.length:Int):=of_decide_eq_true d1;omega
        case' rel=>skip
        have hj:=Hj.out
        have hl:j < (l1_5.length:Int):=of_decide_eq_true d1
        refine⟨j+1,m2,rfl,⟨by omega⟩,⟨rfl⟩,⟨HM3.out.alloc _⟩,⟨fun p=>?_⟩,⟨gb_alloc Hg3.out _⟩,⟨blk_old HP3.out _⟩⟩
        rw [Hm3.out p,nClose_next l1_5 k (pa,pb) j hj.1 hl,if_neg Hgg.out]
        simp
       have d1 : decide (j < (l1_5.length : Int)) = false := decide_eq_false hlt
       have hj:j.toNat=l1_5.length:=by have:=Hj.out;omega
       have HJ:=Aside0.mk hj
       clear hlt hj
       go_wp2
       go_roundg left2.length
       case measure=>have:=Hn1.out;have:=Hp2.out.length_eq;simp at this;omega
       case' rel=>skip
       have hz10:=HMg'.out.lt
       have hzq:=hzW.out
       refine⟨left2,done ++ [((pa,pb),pv)],m2,⟨rfl⟩,⟨?_⟩,⟨HI2.out.grown Hg3.out (nes (by omega)) (nes (by omega))⟩,HM3,⟨fun p=>?_⟩,⟨gb_trans (gb_new Hg.out Hg2.out (by omega)) Hg3.out⟩⟩
       ·rw [List.append_assoc]
        exact Hp.out.trans (Hp2.out.append_left done)
       rw [Hm3.out p, HJ.out, List.take_length, List.map_append, List.map_cons, List.map_nil, nClose_snoc]
       simp
      go_roundg (l2.length - (i + 1).toNat)
      case measure=>have:=Hi.out;have:=Hn.out;have:i < (l2.length:Int):=of_decide_eq_true c1;omega
      case' rel=>skip
      have hi:=Hi.out
      have hl:i < (l2.length:Int):=of_decide_eq_true c1
      have hz13:=blk_lt H13r.out
      have hl9:=below_size HBr.out
      have hdone:done.length=mg.length∧left = []:=by have:=Hp.out.length_eq;rw [HL0.out] at this;exact⟨by simpa using this.symm,HL0.out⟩
      have carry:∀b rw_,RowIs wo b rw_→RowIs _ b rw_:=fun b rw_ hb=>by
       have b1:=hb.move (HW.out.block b hb.lt nen)
       have b2:=b1.move (Hg.out.block b b1.lt (nes (Nat.ne_of_lt hb.lt)))
       have n2:b≠w.heap.size+1+1:=map_ne_cells hb.isMap H7.out
       exact(b2.move (Below.heap_setCell wr ⟨w.heap.size+1+1,0,none⟩ (.map (some wo.heap.size)) b n2)).move (Below.heap_setCell _ ⟨w.heap.size+1+1,1,none⟩ (.int .i64 by_) b n2)
      have hrow:RowIs wr wo.heap.size (nClose l1_5 k row):=⟨mn,HMn.out,fun p=>by
       rw [Hmn.out p]
       unfold nClose
       simp only [List.mem_flatMap]
       constructor
       ·rintro ⟨q, hq, hq2⟩
        exact⟨q,(Hmg'.out q).1 (((Hp.out.map (·.1)).mem_iff).2 (by rw [List.map_append];exact List.mem_append_left _ hq)),hq2⟩
       rintro ⟨q, hq, hq2⟩
       have:=((Hp.out.map (·.1)).mem_iff).1 ((Hmg'.out q).2 hq)
       rw [hdone.2,List.append_nil] at this
       exact⟨q,this,hq2⟩⟩
      refine⟨i+1,nClose l1_5 k row,by_,[],[],wo.heap.size,rfl,⟨by omega⟩,⟨rfl⟩,⟨?_⟩,⟨?_⟩,⟨?_⟩,⟨?_⟩,⟨by have:=Hu.out;omega⟩,⟨Levs.imp carry _ _ HL.out⟩,⟨HG.out⟩,⟨?_⟩,⟨within_close HQ.out.1,HQ.out.2⟩⟩
      ·exact(hrow.move (Below.heap_setCell wr ⟨w.heap.size+1+1,0,none⟩ (.map (some wo.heap.size)) _ (by show wo.heap.size≠w.heap.size+1+1;omega))).move (Below.heap_setCell _ ⟨w.heap.size+1+1,1,none⟩ (.int .i64 by_) _ (by show wo.heap.size≠w.heap.size+1+1;omega))
      ·exact blk_put (blk_put H7r.out 0 _ rfl) 1 _ rfl
      ·exact blk_far (blk_far H4r.out (by show w.heap.size≠w.heap.size+1+1;omega) _) (by show w.heap.size≠w.heap.size+1+1;omega) _
      ·exact Kd.R_mono (Kd.R_far (p:=⟨w.heap.size+1+1,1,none⟩) (Kd.R_far (p:=⟨w.heap.size+1+1,0,none⟩) HUr.out (fun _ hk=>hk.1) _) (fun _ hk=>hk.1) _) (fun _ hk=>hk.1)
      exact below_set (below_set HBr.out (by omega)) (by omega)
    have HL2 := Aside0.mk (hrv ▸ HL.out)
    have hus:us=r.reverse ++ [u]:=by rw [←List.reverse_reverse us,hrv,List.reverse_cons]
    clear hrv
    cases under with
    | nil=>exact HL2.out.elim
    | cons v under=>
    have HG:=Aside0.mk ((goT_close HK.out kd2).symm.trans HG'.out)
    clear HG' kd1 kd2
    obtain⟨nU,hnU⟩:∃nU,nU=us.length:=⟨_,rfl⟩
    rw [←hnU] at HU ⊢
    have HnU:=Aside0.mk hnU
    have hn1:1≤nU:=by rw [hnU,hus];simp
    have hn2:nU≤1000000:=by have:=Hu.out;have:=Hi.out;have:=HS.out;omega
    have hn3:wrap64 ((nU:Int) - 1)=(nU:Int) - 1:=by unfold wrap64;omega
    have hn4:decide ((nU:Int) > 0)=true:=decide_eq_true (by omega)
    have hn5:decide ((0:Int) < (nU:Int))=true:=decide_eq_true (by omega)
    have hcU:nU≤cU:=by
     obtain⟨A,c,e,hl,_⟩:=Kd.R_reads HU.out
     injection e with e1 e2 e3
     omega
    have hC:Kd.C kLev wo AU nU us:=by
     obtain⟨A,c,e,hl,h⟩:=Kd.R_reads HU.out
     injection e with e1 e2 e3
     subst e1;rw [e2];exact h
    obtain⟨ad5,e5,hv5,hv6⟩:=at_lev hC ((nU - 1:Nat):Int) (by omega) (by omega)
    have hgu:us.getD (nU - 1) (0,0)=u:=by
     rw [show nU - 1=r.reverse.length by rw [hnU,hus];simp,hus]
     simp
    rw [Int.toNat_natCast] at hv5 hv6
    rw [hgu] at hv5 hv6
    cases e5
    have HC:=Aside0.mk (And.intro hcU hus)
    clear hC hgu hnU hus
    have ht1:=eq_true (show (0:Int)≤(nU:Int) - 1 by omega)
    have ht4:=eq_true (show (1:Int)≤(nU:Int) by omega)
    have ht2:=eq_true (show (nU:Int) - 1 < (nU:Int) by omega)
    go_wp2
    have HVG:Aside0 (wo.grownBy ((wo.alloc (.map #[] 0)).alloc (.cells #[.map (some wo.heap.size),.int .i64 by_] 76)).drew none):=⟨gb_drew (gb_alloc (gb_alloc (gb_refl wo none) _) _)⟩
    have HV4:Aside0 (((wo.alloc (.map #[] 0)).alloc (.cells #[.map (some wo.heap.size),.int .i64 by_] 76)).drew.heap[w.heap.size]? = some (.cells #[.int .i64 a1_0,.int .i64 a1_1,.slice A1_2 l1_2.length c1_2,.slice A1_3 l1_3.length c1_3,.slice A1_4 l1_4.length c1_4,.slice A1_5 l1_5.length c1_5,.slice A1_6 l1_6.length c1_6] 30 (0,0))):=⟨blk_grown H4.out HVG.out nen⟩
    have HV7:Aside0 (((wo.alloc (.map #[] 0)).alloc (.cells #[.map (some wo.heap.size),.int .i64 by_] 76)).drew.heap[w.heap.size+1+1]? = some (.cells #[.map (some gm),.int .i64 by_] 76 (0,0))):=⟨blk_grown H7.out HVG.out nen⟩
    have HV13:Aside0 (((wo.alloc (.map #[] 0)).alloc (.cells #[.map (some wo.heap.size),.int .i64 by_] 76)).drew.heap[wo.heap.size+1]? = some (.cells #[.map (some wo.heap.size),.int .i64 by_] 76 (0,0))):=⟨blk_newAt (w:=wo.alloc (.map #[] 0)) (.cells #[.map (some wo.heap.size),.int .i64 by_] 76) (size_alloc _ _).symm⟩
    have HVU:Aside0 (((wo.alloc (.map #[] 0)).alloc (.cells #[.map (some wo.heap.size),.int .i64 by_] 76)).drew.cell? (ad5.add ((nU - 1)*2))=some (.map (some u.1))∧((wo.alloc (.map #[] 0)).alloc (.cells #[.map (some wo.heap.size),.int .i64 by_] 76)).drew.cell? ⟨(ad5.add ((nU - 1)*2)).block,(ad5.add ((nU - 1)*2)).off+1,none⟩=some (.int .i64 u.2)):=⟨gb_cell HVG.out hv5 nen,gb_cell HVG.out hv6 nen⟩
    have HVb:Aside0 (Below w.heap.size w ((wo.alloc (.map #[] 0)).alloc (.cells #[.map (some wo.heap.size),.int .i64 by_] 76)).drew):=⟨below_gb HB.out HVG.out (by rintro k ⟨⟩)⟩
    have HVL:Aside0 (RowIs ((wo.alloc (.map #[] 0)).alloc (.cells #[.map (some wo.heap.size),.int .i64 by_] 76)).drew u.1 v.1∧u.2=v.2):=⟨HL2.out.1.move (HVG.out.block _ HL2.out.1.lt nen),HL2.out.2.1⟩
    have HVN:Aside0 (RowIs ((wo.alloc (.map #[] 0)).alloc (.cells #[.map (some wo.heap.size),.int .i64 by_] 76)).drew gm row):=⟨HM.out.move (HVG.out.block _ HM.out.lt nen)⟩
    have hsW:((wo.alloc (.map #[] 0)).alloc (.cells #[.map (some wo.heap.size),.int .i64 by_] 76)).drew.heap.size=wo.heap.size+1+1:=by show ((wo.alloc (.map #[] 0)).alloc (.cells #[.map (some wo.heap.size),.int .i64 by_] 76)).heap.size=_;rw [size_alloc,size_alloc]
    have HsW:=Aside0.mk hsW
    clear hsW
    refine start_ (n:=10) (S:=fun w'=>w'.heap[w.heap.size]? = some (.cells #[.int .i64 a1_0,.int .i64 a1_1,.slice A1_2 l1_2.length c1_2,.slice A1_3 l1_3.length c1_3,.slice A1_4 l1_4.length c1_4,.slice A1_5 l1_5.length c1_5,.slice A1_6 l1_6.length c1_6] 30 (0,0))∧w'.heap[w.heap.size+1+1]? = some (.cells #[.map (some gm),.int .i64 by_] 76 (0,0))∧w'.cell? (ad5.add ((nU - 1)*2))=some (.map (some u.1))∧w'.cell? ⟨(ad5.add ((nU - 1)*2)).block,(ad5.add ((nU - 1)*2)).off+1,none⟩=some (.int .i64 u.2)) (ds:=[9]) #[false,false,false,false,false,false,false,false,false,false] (by kernel_rfl) rfl rfl ⟨HV4.out,HV7.out,HVU.out.1,HVU.out.2⟩ (fun hHeld=>?_)
    generalize ((wo.alloc (.map #[] 0)).alloc (.cells #[.map (some wo.heap.size),.int .i64 by_] 76)).drew=wd at HV4 HV7 HVU HVb HV13 HVL HVN HVG HsW hHeld ⊢
    refine pure_ (i:=1) (N:=(some 144)) (v:=?_) (a':=?_) #[false,true,false,false,false,false,false,false,false,false] rfl rfl (by kernel_rfl) (fun _ _ _ h=>h) (Or.inl ⟨by rfl,?_⟩) ?_ ?_
    rotate_left
    ·intro w'
     go_simp
     with_reducible rfl
    rotate_left
    ·simp only [Act.put, M.sq3, i64_w, i32_w]
     rfl
    refine pure_ (i:=2) (N:=(some 145)) (v:=?_) (a':=?_) #[false,true,true,false,false,false,false,false,false,false] rfl rfl (by kernel_rfl) (fun _ _ _ h=>h) (Or.inl ⟨by rfl,?_⟩) ?_ ?_
    rotate_left
    ·intro w'
     go_simp
     with_reducible rfl
    rotate_left
    ·simp only [Act.put, M.sq3, i64_w, i32_w]
     rfl
    refine pure_ (i:=3) (N:=(some 146)) (v:=?_) (a':=?_) #[false,true,true,true,false,false,false,false,false,false] rfl rfl (by kernel_rfl) (fun _ _ _ h=>h) (Or.inl ⟨by rfl,?_⟩) ?_ ?_
    rotate_left
    ·intro w'
     go_simp
     with_reducible rfl
    rotate_left
    ·simp only [Act.put, M.sq3, i64_w, i32_w]
     rfl
    refine pure_ (i:=4) (N:=(some 147)) (v:=?_) (a':=?_) #[false,true,true,true,true,false,false,false,false,false] rfl rfl (by kernel_rfl) (fun _ _ _ h=>h) (Or.inl ⟨by rfl,?_⟩) ?_ ?_
    rotate_left
    ·intro w'
     go_simp
     with_reducible rfl
    rotate_left
    ·simp only [Act.put, M.sq3, i64_w, i32_w]
     rfl
    refine pure_ (i:=7) (N:=(some 150)) (v:=?_) (a':=?_) #[false,true,true,true,true,false,false,true,false,false] rfl rfl (by kernel_rfl) (fun _ _ _ h=>h) (Or.inl ⟨by rfl,?_⟩) ?_ ?_
    rotate_left
    ·intro w'
     go_simp
     with_reducible rfl
    rotate_left
    ·simp only [Act.put, M.sq3, i64_w, i32_w]
     rfl
    refine take_ (i:=0) (N:=(some 143)) (v:=?_) (a':=?_) #[true,true,true,true,true,false,false,true,false,false] rfl rfl (by kernel_rfl) (fun _ _ _ h=>h) (Or.inl ⟨by rfl,?_⟩) hHeld ?_ ?_
    rotate_left
    ·intro w' hS_
     obtain⟨s0,s1,s2,s3⟩:=hS_
     have a0:w'.cell? ⟨w.heap.size,0,none⟩=some (.int .i64 a1_0):=(blk_cell s0 0).trans rfl
     have a1:w'.cell? ⟨w.heap.size,1,none⟩=some (.int .i64 a1_1):=(blk_cell s0 1).trans rfl
     have a2:w'.cell? ⟨w.heap.size,2,none⟩=some (.slice A1_2 l1_2.length c1_2):=(blk_cell s0 2).trans rfl
     have a3:w'.cell? ⟨w.heap.size,3,none⟩=some (.slice A1_3 l1_3.length c1_3):=(blk_cell s0 3).trans rfl
     have a4:w'.cell? ⟨w.heap.size,4,none⟩=some (.slice A1_4 l1_4.length c1_4):=(blk_cell s0 4).trans rfl
     have a5:w'.cell? ⟨w.heap.size,5,none⟩=some (.slice A1_5 l1_5.length c1_5):=(blk_cell s0 5).trans rfl
     have a6:w'.cell? ⟨w.heap.size,6,none⟩=some (.slice A1_6 l1_6.length c1_6):=(blk_cell s0 6).trans rfl
     clear s0 s1 s2 s3
     go_simp
     with_reducible rfl
    rotate_left
    ·simp only [Act.put, M.sq3, i64_w, i32_w]
     rfl
    refine take_ (i:=5) (N:=(some 148)) (v:=?_) (a':=?_) #[true,true,true,true,true,true,false,true,false,false] rfl rfl (by kernel_rfl) (fun _ _ _ h=>h) (Or.inl ⟨by rfl,?_⟩) hHeld ?_ ?_
    rotate_left
    ·intro w' hS_
     obtain⟨s0,s1,s2,s3⟩:=hS_
     clear s0 s1
     go_simp
     with_reducible rfl
    rotate_left
    ·simp only [Act.put, M.sq3, i64_w, i32_w]
     rfl
    refine take_ (i:=6) (N:=(some 149)) (v:=?_) (a':=?_) #[true,true,true,true,true,true,true,true,false,false] rfl rfl (by kernel_rfl) (fun _ _ _ h=>h) (Or.inl ⟨by rfl,?_⟩) hHeld ?_ ?_
    rotate_left
    ·intro w' hS_
     obtain⟨s0,s1,s2,s3⟩:=hS_
     have b0:w'.cell? ⟨w.heap.size+1+1,0,none⟩=some (.map (some gm)):=(blk_cell s1 0).trans rfl
     have b1:w'.cell? ⟨w.heap.size+1+1,1,none⟩=some (.int .i64 by_):=(blk_cell s1 1).trans rfl
     clear s0 s1 s2 s3
     go_simp
     with_reducible rfl
    rotate_left
    ·simp only [Act.put, M.sq3, i64_w, i32_w]
     rfl
    refine one_ (i:=8) (N:=(some 151)) #[true,true,true,true,true,true,true,true,true,false] rfl rfl (by kernel_rfl) (by decide) (fun K hK=>?_)
    refine goes_ Try.func40 (by kernel_rfl) rfl #[.agg #[.int .i64 a1_0,.int .i64 a1_1,.slice A1_2 l1_2.length c1_2,.slice A1_3 l1_3.length c1_3,.slice A1_4 l1_4.length c1_4,.slice A1_5 l1_5.length c1_5,.slice A1_6 l1_6.length c1_6],.agg #[.map (some u.1),.int .i64 u.2],.agg #[.map (some gm),.int .i64 by_],.int .i64 k] rfl rfl rfl (by(try simp only [List.map_toArray,List.map_cons,List.map_nil]);rfl) ?_
    refine(runs_back.calls a1_0 a1_1 A1_2 c1_2 _ A1_3 c1_3 _ A1_4 c1_4 l1_4 A1_5 c1_5 l1_5 A1_6 c1_6 _ u.1 gm u.2 by_ k v.1 row _ (Kd.C_below HR4.out HVb.out) (Kd.C_below HR5.out HVb.out) ⟨HS.out.2.2.2.1,HS.out.2.2.2.2.1⟩ HVL.out.1 HVN.out (within_bound HQ.out.1 HS.out.2.1 HS.out.2.2.2.1 HS.out.2.2.2.2.1 HS.out.2.2.2.2.2.1)).mono ?_
    rintro e w7 ⟨b7,rfl,hb7,hr7,hw7⟩
    refine⟨_,rfl,?_⟩
    have Hb7:=Aside0.mk hb7
    have Hr7:=Aside0.mk hr7
    have Hw7:=Aside0.mk hw7
    have HV4':=Aside0.mk (blk_below HV4.out hw7)
    have HV7':=Aside0.mk (blk_below HV7.out hw7)
    have HV13':=Aside0.mk (blk_below HV13.out hw7)
    refine hK.out _ _ ⟨HV4'.out,HV7'.out,(hw7.cell (World.block_lt_of_cell? _ _ hHeld.2.2.1)).trans hHeld.2.2.1,(hw7.cell (World.block_lt_of_cell? _ _ hHeld.2.2.2)).trans hHeld.2.2.2⟩ (fun hHeld=>?_)
    clear hK K hb7 hr7 hw7
    refine norm_ (a':=?_) ?_ ?_
    rotate_left
    ·show Act.put _ (some 151) _ = _
     simp only [Act.put,M.sq3,i64_w,i32_w]
     rfl
    refine last_ (i:=9) (N:=none) #[true,true,true,true,true,true,true,true,true,true] rfl rfl (by kernel_rfl) (by decide) (fun K hK=>?_)
    have f130:=blk_frozen HV13'.out 0
    have f131:=blk_frozen HV13'.out 1
    have g130:w7.cell? ⟨wo.heap.size+1,0,none⟩=some (.map (some wo.heap.size)):=(blk_cell HV13'.out 0).trans rfl
    have g131:w7.cell? ⟨wo.heap.size+1,1,none⟩=some (.int .i64 by_):=(blk_cell HV13'.out 1).trans rfl
    refine Go.Proofs.Ytjkhdldgmkkhjaa.M.step_skip (w1:=(w7.setCell ⟨wo.heap.size+1,0,none⟩ (.map (some b7))).setCell ⟨wo.heap.size+1,1,none⟩ (.int .i64 u.2)) rfl rfl (by go_simp) ?_
    refine hK.out _ _ ?_
    clear hK K f130 f131 g130 g131
    refine done_ (by kernel_rfl) ?_
    have g130:w7.cell? ⟨wo.heap.size+1,0,none⟩=some (.map (some wo.heap.size)):=(blk_cell HV13'.out 0).trans rfl
    have g131:w7.cell? ⟨wo.heap.size+1,1,none⟩=some (.int .i64 by_):=(blk_cell HV13'.out 1).trans rfl
    have g70:w7.cell? ⟨w.heap.size+1+1,0,none⟩=some (.map (some gm)):=(blk_cell HV7'.out 0).trans rfl
    have g71:w7.cell? ⟨w.heap.size+1+1,1,none⟩=some (.int .i64 by_):=(blk_cell HV7'.out 1).trans rfl
    have f70:=blk_frozen HV7'.out 0
    have f71:=blk_frozen HV7'.out 1
    have ht3:=eq_true (show (nU:Int) - 1≤(cU:Int) by have:=HC.out.1;omega)
    clear hHeld hv5 hv6
    go_wp2
    go_roundg (l2.length - (i+1).toNat)
    case measure=>have:=Hi.out;have:=Hn.out;have:i < (l2.length:Int):=of_decide_eq_true c1;omega
    case' rel=>skip
    have hi:=Hi.out
    have hl:i < (l2.length:Int):=of_decide_eq_true c1
    have hu2:=HVL.out.2
    have hus:=HC.out.2
    have hwl:=below_size (below_then HVb.out (below_size HVb.out) Hw7.out)
    have hb7:wo.heap.size+1+1≤b7:=by have:=Hb7.out;have:=HsW.out;omega
    have carry0:∀b,(∃es c,wo.heap[b]? = some (.map es c))→b < wo.heap.size→((((w7.setCell ⟨wo.heap.size+1,0,none⟩ (.map (some b7))).setCell ⟨wo.heap.size+1,1,none⟩ (.int .i64 u.2)).setCell ⟨w.heap.size+1+1,0,none⟩ (.map (some b7))).setCell ⟨w.heap.size+1+1,1,none⟩ (.int .i64 u.2)).heap[b]? = wo.heap[b]?:=fun b hb hlt=>by
     have n1:b≠wo.heap.size+1:=by omega
     have n2:b≠w.heap.size+1+1:=map_ne_cells hb H7.out
     rw [Below.heap_setCell _ ⟨w.heap.size+1+1,1,none⟩ (.int .i64 u.2) b n2,Below.heap_setCell _ ⟨w.heap.size+1+1,0,none⟩ (.map (some b7)) b n2,Below.heap_setCell _ ⟨wo.heap.size+1,1,none⟩ (.int .i64 u.2) b n1,Below.heap_setCell _ ⟨wo.heap.size+1,0,none⟩ (.map (some b7)) b n1,
      Hw7.out.block b (by have:=HsW.out;omega),HVG.out.block b hlt nen]
    have carry:∀b rw_,RowIs wo b rw_→RowIs _ b rw_:=fun b rw_ hb=>hb.move (carry0 b hb.isMap hb.lt)
    have m1:b7≠wo.heap.size+1:=by omega
    have m2:b7≠w.heap.size+1+1:=by omega
    refine⟨i+1,nBack l1_4 l1_5 k by_ v.1 row,v.2,under,r.reverse,b7,by rw [w1_],⟨by omega⟩,⟨rfl⟩,⟨?_⟩,⟨?_⟩,⟨?_⟩,⟨?_⟩,⟨?_⟩,⟨?_⟩,⟨HG.out⟩,⟨?_⟩,⟨within_back (HQ.out.2 v List.mem_cons_self),fun x hx=>HQ.out.2 x (List.mem_cons_of_mem _ hx)⟩⟩
    ·exact(((Hr7.out.move (Below.heap_setCell w7 ⟨wo.heap.size+1,0,none⟩ (.map (some b7)) _ m1)).move (Below.heap_setCell _ ⟨wo.heap.size+1,1,none⟩ (.int .i64 u.2) _ m1)).move (Below.heap_setCell _ ⟨w.heap.size+1+1,0,none⟩ (.map (some b7)) _ m2)).move (Below.heap_setCell _ ⟨w.heap.size+1+1,1,none⟩ (.int .i64 u.2) _ m2)
    ·rw [← hu2]
     exact blk_put (blk_put (blk_far (blk_far HV7'.out (by show w.heap.size+1+1≠wo.heap.size+1;omega) _) (by show w.heap.size+1+1≠wo.heap.size+1;omega) _) 0 _ rfl) 1 _ rfl
    ·exact blk_far (blk_far (blk_far (blk_far HV4'.out (by show w.heap.size≠wo.heap.size+1;omega) _) (by show w.heap.size≠wo.heap.size+1;omega) _) (by show w.heap.size≠w.heap.size+1+1;omega) _) (by show w.heap.size≠w.heap.size+1+1;omega) _
    ·have r1 := Kd.R_step (Kd.R_step (Kd.R_elderB HU.out (wo.heap.size + 1) (by omega)) (fun k _ hk => HVG.out.block k hk nen)) (fun k _ hk => Hw7.out.block k hk)
     have r2:=Kd.R_mono (Kd.R_far (p:=⟨w.heap.size+1+1,1,none⟩) (Kd.R_far (p:=⟨w.heap.size+1+1,0,none⟩) (Kd.R_far (p:=⟨wo.heap.size+1,1,none⟩) (Kd.R_far (p:=⟨wo.heap.size+1,0,none⟩) r1 (fun _ hk=>hk.2) (.map (some b7))) (fun _ hk=>hk.2) (.int .i64 u.2)) (fun _ hk=>hk.1) (.map (some b7))) (fun _ hk=>hk.1) (.int .i64 u.2)) (fun _ hk=>hk.1)
     have r3:=Kd.R_take r2 (m:=nU - 1) (by have:=HnU.out;omega)
     have:us.take (nU - 1)=r.reverse:=by
      rw [HnU.out,hus];simp
     rw [this] at r3
     exact r3
    ·have := Hu.out
     rw [hus] at this
     simp at this ⊢
     omega
    ·rw [List.reverse_reverse]
     exact Levs.imp carry _ _ HL2.out.2.2
    exact below_set (below_set (below_set (below_set (below_then HVb.out (below_size HVb.out) Hw7.out) (by omega)) (by omega)) (by omega)) (by omega)
   have d2_ : ((rd_T46 l0 k).f1 == 2) = false := beq_eq_false_iff_ne.mpr kd2
   have HG:=Aside0.mk ((goT_inner HK.out kd1 kd2).symm.trans HG'.out)
   clear HG' kd1 kd2
   have HM':=HM
   obtain⟨mg,HMg,Hmg⟩:=HM.out
   have HMg':=Aside0.mk HMg
   have Hmg':=Aside0.mk Hmg
   clear HMg Hmg
   go_wp2_with (at_range;refine wp_range rfl _ _ rfl _ _ Try.underlying74 gm rfl ((HMg'.out.alloc _).alloc _) (wo.heap.size+1+1) (by rw [size_alloc,size_alloc]) ?_;intro w1 hit1 hg1)
   obtain⟨W0,hW0⟩:∃W0:World,W0=(wo.alloc (.map #[] 0)).alloc (.cells #[.map (some wo.heap.size),.int .i64 by_] 76):=⟨_,rfl⟩
   have HN:=Aside0.mk ((hW0 ▸ (MapIs.madeAt ePair eOne rfl).alloc _:MapIs ePair eOne W0 wo.heap.size ([]:List ((Int × Int) × Int))))
   have H13:=Aside0.mk ((hW0 ▸ blk_newAt _ (size_alloc _ _).symm:W0.heap[wo.heap.size+1]? = some (.cells #[.map (some wo.heap.size),.int .i64 by_] 76 (0,0))))
   have HW:=Aside0.mk ((hW0 ▸ gb_alloc (gb_alloc (gb_refl wo none) _) _:wo.grownBy W0 none))
   have hzW0:W0.heap.size=wo.heap.size+1+1:=by rw [hW0,size_alloc,size_alloc]
   rw [←hW0] at hg1
   skip
   clear hW0
   have hzW:=Aside0.mk hzW0
   clear hzW0
   go_loopg [] mg.length (fun n w'=>∃(left done:List ((Int × Int) × Int)) (mn:List ((Int × Int) × Int)),Aside0 (n=left.length)∧Aside0 (mg.Perm (done ++ left))∧Aside0 (IterIs ePair eOne w' (wo.heap.size+1+1) gm mg left)∧
    Aside0 (MapIs ePair eOne w' wo.heap.size mn)∧Aside0 (∀p,p∈mn.map (·.1)↔p∈nInner l1_6 k (done.map (·.1)))∧Aside0 (W0.grownBy w' (some wo.heap.size)))
   case atStart=>exact⟨mg,[],[],⟨rfl⟩,⟨List.Perm.refl _⟩,⟨hit1⟩,⟨HN.out.grown hg1 (by simp)⟩,⟨by simp [nInner]⟩,⟨gb_none hg1 _⟩⟩
   case' round=>skip
   obtain⟨left,done,mn,Hn1,Hp,HI,HMn,Hmn,Hg⟩:=hrel
   have H4r:=Aside0.mk (blk_grown (blk_grown H4.out HW.out nen) Hg.out (nes (by omega)))
   have H7r:=Aside0.mk (blk_grown (blk_grown H7.out HW.out nen) Hg.out (nes (by omega)))
   have H13r:=Aside0.mk (blk_grown H13.out Hg.out (nes (by omega)))
   have k44:wr.cell? ⟨w.heap.size,6,none⟩=some (.slice A1_6 l1_6.length c1_6):=(blk_cell H4r.out 6).trans rfl
   have k70:wr.cell? ⟨w.heap.size+1+1,0,none⟩=some (.map (some gm)):=(blk_cell H7r.out 0).trans rfl
   have k71:wr.cell? ⟨w.heap.size+1+1,1,none⟩=some (.int .i64 by_):=(blk_cell H7r.out 1).trans rfl
   have hz8:=blk_lt H4r.out
   have hz8b:=blk_lt H7r.out
   have HBr:=Aside0.mk (below_gb (below_gb HB.out HW.out (by rintro k ⟨⟩)) Hg.out (by rintro k ⟨rfl⟩;omega))
   have k130:wr.cell? ⟨wo.heap.size+1,0,none⟩=some (.map (some wo.heap.size)):=(blk_cell H13r.out 0).trans rfl
   have k131:wr.cell? ⟨wo.heap.size+1,1,none⟩=some (.int .i64 by_):=(blk_cell H13r.out 1).trans rfl
   have f70:=blk_frozen H7r.out 0
   have f71:=blk_frozen H7r.out 1
   have HUr:=Aside0.mk (R_beside (Kd.R_step (Kd.R_elderB HU.out (wo.heap.size+1) (by omega)) (fun k _ hk=>HW.out.block k hk nen)) HN.out.isMap Hg.out)
   go_wp2_with (first
    | (at_next;go_loud (refine wp_next rfl _ rfl _ rfl HI.out ?dn3 ?mr3);(case' dn3=>intro hl0;have HL0:=Aside0.mk hl0;clear hl0);(case' mr3=>rintro⟨⟨pa,pb⟩,pv⟩ left2 w2 hp2 hi2 hg2 hen;simp only [ePair,eOne] at hen;replace k44:=gb_cell hg2 k44 (nes (by show w.heap.size≠_;omega));replace hz8:w.heap.size < w2.heap.size:=Nat.lt_of_lt_of_le hz8 hg2.size)))
   ·have HI2 := Aside0.mk hi2
    have Hp2:=Aside0.mk hp2
    have Hg2:=Aside0.mk hg2
    have HM2:=Aside0.mk (HMn.out.grown hg2 (nes (by omega)))
    clear hi2 hp2 hg2 hen k44 k130 k131 f70 f71
    have HP2:=Aside0.mk (blk_newAt (w:=w2) (n:=w2.heap.size) (.cells #[.int .i64 pa,.int .i64 pb] 78) rfl)
    go_loopg [73] l1_6.length (fun n v73 w'=>∃(j:Int) (m2:List ((Int × Int) × Int)),v73=.int .i64 j∧Aside0 (0≤j∧j≤l1_6.length)∧Aside0 (n=l1_6.length - j.toNat)∧
     Aside0 (MapIs ePair eOne w' wo.heap.size m2)∧Aside0 (∀p,p∈m2.map (·.1)↔p∈nInner l1_6 k (done.map (·.1))∨p∈nInner (l1_6.take j.toNat) k [(pa,pb)])∧
     Aside0 (w2.grownBy w' (some wo.heap.size))∧Aside0 (w'.heap[w2.heap.size]? = some (.cells #[.int .i64 pa,.int .i64 pb] 78 (0,0))))
    case atStart=>exact⟨0,mn,rfl,⟨by omega⟩,⟨by omega⟩,⟨HM2.out.alloc _⟩,⟨fun p=>by rw [Hmn.out p];simp [nInner]⟩,⟨gb_alloc (gb_refl _ _) _⟩,HP2⟩
    case' round=>skip
    clear HP2
    obtain⟨j,m2,rfl,Hj,Hnj,HM3,Hm3,Hg3,HP3⟩:=hrel
    have hz9:wo.heap.size+1 < wr.heap.size:=by have:=Hg3.out.size;have:=Hg2.out.size;have:=Hg.out.size;have:=hzW.out;omega
    have hz9b:w2.heap.size < wr.heap.size:=blk_lt HP3.out
    by_cases hlt:j < (l1_6.length:Int)
    ·have d1 : decide (j < (l1_6.length : Int)) = true := decide_eq_true hlt
     have HB3:Aside0 (Below w.heap.size w wr):=⟨below_gb (below_gb HBr.out Hg2.out (by rintro k ⟨rfl⟩;omega)) Hg3.out (by rintro k ⟨rfl⟩;omega)⟩
     obtain⟨ad3,e3,hr0,hr1,hr2⟩:=at_T56 HR6.out j Hj.out.1 hlt
     replace hr0:=(HB3.out.cell (World.block_lt_of_cell? w _ hr0)).trans hr0
     replace hr1:=(HB3.out.cell (World.block_lt_of_cell? w _ hr1)).trans hr1
     replace hr2:=(HB3.out.cell (World.block_lt_of_cell? w _ hr2)).trans hr2
     cases e3
     have p1:=eq_true Hj.out.1
     have q1:=eq_true hlt
     have w1_:wrap64 (j+1)=j+1:=by have:=Hj.out;have:=HS.out;unfold wrap64;omega
     have k140:wr.cell? ⟨w2.heap.size,0,none⟩=some (.int .i64 pa):=(blk_cell HP3.out 0).trans rfl
     have k141:wr.cell? ⟨w2.heap.size,1,none⟩=some (.int .i64 pb):=(blk_cell HP3.out 1).trans rfl
     have k13:wr.cell? ⟨wo.heap.size+1,0,none⟩=some (.map (some wo.heap.size)):=(blk_cell (blk_grown (blk_grown H13r.out Hg2.out (nes (by omega))) Hg3.out (nes (by omega))) 0).trans rfl
     clear hlt
     by_cases g1:(rd_T56 l1_6 j).f0=pb
     ·have d2 : ((rd_T56 l1_6 j).f0 == pb) = true := beq_iff_eq.mpr g1
      by_cases g2:(rd_T56 l1_6 j).f1=k
      ·have d3 : ((rd_T56 l1_6 j).f1 == k) = true := beq_iff_eq.mpr g2
       have Hgg:=Aside0.mk (And.intro g1 g2)
       clear g1 g2
       go_wp2_with (at_mapUpdate;refine wp_update rfl _ _ _ _ rfl _ _ Try.underlying74 keyPair wo.heap.size rfl (HM3.out.alloc _) (pa,(rd_T56 l1_6 j).f2) rfl (1:Int) rfl ?_;intro w3 hm3 hg3)
       go_roundg (l1_6.length - (j+1).toNat)
       case measure=>have:=Hj.out;have:=Hnj.out;have:j < (l1_6.length:Int):=of_decide_eq_true d1;omega
       case' rel=>skip
       have hj:=Hj.out
       have hl:j < (l1_6.length:Int):=of_decide_eq_true d1
       refine⟨j+1,_,rfl,⟨by omega⟩,⟨rfl⟩,⟨hm3⟩,⟨fun p=>?_⟩,⟨gb_trans (gb_alloc Hg3.out _) hg3⟩,⟨blk_grown (blk_old HP3.out _) hg3 (nes (by have:=blk_lt HP3.out;have:=hzW.out;have:=Hg.out.size;have:=Hg2.out.size;omega))⟩⟩
       rw [putM_keys,Hm3.out p,nInner_next l1_6 k (pa,pb) j hj.1 hl,if_pos Hgg.out]
       simp only [List.mem_append,List.mem_singleton]
       constructor
       ·rintro (h | h | h)
        ·exact .inr (.inr h)
        ·exact .inl h
        exact .inr (.inl h)
       rintro (h | h | h)
       ·exact .inr (.inl h)
       ·exact .inr (.inr h)
       exact .inl h
      have d3 : ((rd_T56 l1_6 j).f1 == k) = false := beq_eq_false_iff_ne.mpr g2
      have Hgg:Aside0 (¬((rd_T56 l1_6 j).f0=pb∧(rd_T56 l1_6 j).f1=k)):=⟨fun e=>g2 e.2⟩
      clear g1 g2
      go_wp2
      go_roundg (l1_6.length - (j+1).toNat)
      case measure=>have:=Hj.out;have:=Hnj.out;have:j < (l1_6.length:Int):=of_decide_eq_true d1;omega
      case' rel=>skip
      have hj:=Hj.out
      have hl:j < (l1_6.length:Int):=of_decide_eq_true d1
      refine⟨j+1,m2,rfl,⟨by omega⟩,⟨rfl⟩,⟨HM3.out.alloc _⟩,⟨fun p=>?_⟩,⟨gb_alloc Hg3.out _⟩,⟨blk_old HP3.out _⟩⟩
      rw [Hm3.out p,nInner_next l1_6 k (pa,pb) j hj.1 hl,if_neg Hgg.out]
      simp
     have d2 : ((rd_T56 l1_6 j).f0 == pb) = false := beq_eq_false_iff_ne.mpr g1
     have Hgg:Aside0 (¬((rd_T56 l1_6 j).f0=pb∧(rd_T56 l1_6 j).f1=k)):=⟨fun e=>g1 e.1⟩
     clear g1
     go_wp2
     go_roundg (l1_6.length - (j+1).toNat)
     case measure=>have:=Hj.out;have:=Hnj.out;have:j < (l1_6.length:Int):=of_decide_eq_true d1;omega
     case' rel=>skip
     have hj:=Hj.out
     have hl:j < (l1_6.length:Int):=of_decide_eq_true d1
     refine⟨j+1,m2,rfl,⟨by omega⟩,⟨rfl⟩,⟨HM3.out.alloc _⟩,⟨fun p=>?_⟩,⟨gb_alloc Hg3.out _⟩,⟨blk_old HP3.out _⟩⟩
     rw [Hm3.out p,nInner_next l1_6 k (pa,pb) j hj.1 hl,if_neg Hgg.out]
     simp
    have d1 : decide (j < (l1_6.length : Int)) = false := decide_eq_false hlt
    have hj:j.toNat=l1_6.length:=by have:=Hj.out;omega
    have HJ:=Aside0.mk hj
    clear hlt hj
    go_wp2
    go_roundg left2.length
    case measure=>have:=Hn1.out;have:=Hp2.out.length_eq;simp at this;omega
    case' rel=>skip
    have hz10:=HMg'.out.lt
    have hzq:=hzW.out
    refine⟨left2,done ++ [((pa,pb),pv)],m2,⟨rfl⟩,⟨?_⟩,⟨HI2.out.grown Hg3.out (nes (by omega)) (nes (by omega))⟩,HM3,⟨fun p=>?_⟩,⟨gb_trans (gb_new Hg.out Hg2.out (by omega)) Hg3.out⟩⟩
    ·rw [List.append_assoc]
     exact Hp.out.trans (Hp2.out.append_left done)
    rw [Hm3.out p, HJ.out, List.take_length, List.map_append, List.map_cons, List.map_nil, nInner_snoc]
    simp
   go_roundg (l2.length - (i + 1).toNat)
   case measure=>have:=Hi.out;have:=Hn.out;have:i < (l2.length:Int):=of_decide_eq_true c1;omega
   case' rel=>skip
   have hi:=Hi.out
   have hl:i < (l2.length:Int):=of_decide_eq_true c1
   have hz13:=blk_lt H13r.out
   have hl9:=below_size HBr.out
   have hdone:done.length=mg.length∧left = []:=by have:=Hp.out.length_eq;rw [HL0.out] at this;exact⟨by simpa using this.symm,HL0.out⟩
   have carry:∀b rw_,RowIs wo b rw_→RowIs _ b rw_:=fun b rw_ hb=>by
    have b1:=hb.move (HW.out.block b hb.lt nen)
    have b2:=b1.move (Hg.out.block b b1.lt (nes (Nat.ne_of_lt hb.lt)))
    have n2:b≠w.heap.size+1+1:=map_ne_cells hb.isMap H7.out
    exact(b2.move (Below.heap_setCell wr ⟨w.heap.size+1+1,0,none⟩ (.map (some wo.heap.size)) b n2)).move (Below.heap_setCell _ ⟨w.heap.size+1+1,1,none⟩ (.int .i64 by_) b n2)
   have hrow:RowIs wr wo.heap.size (nInner l1_6 k row):=⟨mn,HMn.out,fun p=>by
    rw [Hmn.out p]
    unfold nInner
    simp only [List.mem_flatMap]
    constructor
    ·rintro ⟨q, hq, hq2⟩
     exact⟨q,(Hmg'.out q).1 (((Hp.out.map (·.1)).mem_iff).2 (by rw [List.map_append];exact List.mem_append_left _ hq)),hq2⟩
    rintro ⟨q, hq, hq2⟩
    have:=((Hp.out.map (·.1)).mem_iff).1 ((Hmg'.out q).2 hq)
    rw [hdone.2,List.append_nil] at this
    exact⟨q,this,hq2⟩⟩
   refine⟨i+1,nInner l1_6 k row,by_,under,us,wo.heap.size,rfl,⟨by omega⟩,⟨rfl⟩,⟨?_⟩,⟨?_⟩,⟨?_⟩,⟨?_⟩,⟨by have:=Hu.out;omega⟩,⟨Levs.imp carry _ _ HL.out⟩,⟨HG.out⟩,⟨?_⟩,⟨within_inner HQ.out.1,HQ.out.2⟩⟩
   ·exact(hrow.move (Below.heap_setCell wr ⟨w.heap.size+1+1,0,none⟩ (.map (some wo.heap.size)) _ (by show wo.heap.size≠w.heap.size+1+1;omega))).move (Below.heap_setCell _ ⟨w.heap.size+1+1,1,none⟩ (.int .i64 by_) _ (by show wo.heap.size≠w.heap.size+1+1;omega))
   ·exact blk_put (blk_put H7r.out 0 _ rfl) 1 _ rfl
   ·exact blk_far (blk_far H4r.out (by show w.heap.size≠w.heap.size+1+1;omega) _) (by show w.heap.size≠w.heap.size+1+1;omega) _
   ·exact Kd.R_mono (Kd.R_far (p:=⟨w.heap.size+1+1,1,none⟩) (Kd.R_far (p:=⟨w.heap.size+1+1,0,none⟩) HUr.out (fun _ hk=>hk.1) _) (fun _ hk=>hk.1) _) (fun _ hk=>hk.1)
   exact below_set (below_set HBr.out (by omega)) (by omega)
  have hr:Aside0 (r=false):=⟨by
   rw [←HH.out]
   unfold takesB
   rw [←HG.out,HD.out]
   unfold goT
   rw [if_neg hk]⟩
  by_cases hk0:k < 0
  ·have c2 : decide (k < 0) = true := decide_eq_true hk0
   clear hk hk0
   go_wp2
   go_ret
   exact⟨by rw [hr.out];rfl,HB.out⟩
  have c2 : decide (k < 0) = false := decide_eq_false hk0
  have c3:decide (k≥(l0.length:Int))=true:=decide_eq_true (by omega)
  have c4:decide ((l0.length:Int)≤k)=true:=decide_eq_true (by omega)
  clear hk hk0
  go_wp2
  go_ret
  exact⟨by rw [hr.out];rfl,HB.out⟩
 have c1 : decide (i < (l2.length : Int)) = false := decide_eq_false hlt
 have hd:l2.drop i.toNat = []:=List.drop_eq_nil_of_le (by omega)
 have HF:Aside0 (row.any (fun p=>l1_3.contains p.2)=r):=⟨by
  rw [←HH.out]
  unfold takesB
  rw [←HG.out,hd]
  rfl⟩
 clear hlt hd HG
 obtain⟨mg,HMg,Hmg⟩:=HM.out
 have HMg':=Aside0.mk HMg
 have Hmg':=Aside0.mk Hmg
 clear HMg Hmg
 have k70:wo.cell? ⟨w.heap.size+1+1,0,none⟩=some (.map (some gm)):=(blk_cell H7.out 0).trans rfl
 go_wp2_with (at_range;go_loud (refine wp_range rfl _ _ rfl _ _ Try.underlying74 gm rfl HMg'.out wo.heap.size rfl ?_);intro w1 hit1 hg1)
 go_frame
 go_loopg [] mg.length (fun n w'=>∃(left done:List ((Int × Int) × Int)),Aside0 (n=left.length)∧Aside0 (mg.Perm (done ++ left))∧Aside0 (IterIs ePair eOne w' wo.heap.size gm mg left)∧
  Aside0 (∀p∈done,p.1.2∉l1_3)∧Aside0 (wo.grownBy w' none))
 case atStart=>exact⟨mg,[],⟨rfl⟩,⟨List.Perm.refl _⟩,⟨hit1⟩,⟨fun p hp=>by cases hp⟩,⟨hg1⟩⟩
 case' round=>skip
 clear hit1 hg1 k70
 obtain⟨left,done,Hn1,Hp,HI,Hd,Hg⟩:=hrel
 have H4r:=Aside0.mk (blk_grown H4.out Hg.out nen)
 have HBr:=Aside0.mk (below_gb HB.out Hg.out (by rintro k ⟨⟩))
 have k43:wr.cell? ⟨w.heap.size,3,none⟩=some (.slice A1_3 l1_3.length c1_3):=(blk_cell H4r.out 3).trans rfl
 have hz8:=blk_lt H4r.out
 have hz9:w.heap.size < wo.heap.size:=blk_lt H4.out
 go_wp2_with (first
  | (at_next;go_loud (refine wp_next rfl _ rfl _ rfl HI.out ?dn9 ?mr9);(case' dn9=>intro hl0;have HL0:=Aside0.mk hl0;clear hl0);(case' mr9=>rintro⟨⟨pa,pb⟩,pv⟩ left2 w2 hp2 hi2 hg2 hen;simp only [ePair,eOne] at hen;replace k43:=gb_cell hg2 k43 (nes (by show w.heap.size≠_;omega));replace hz8:w.heap.size < w2.heap.size:=Nat.lt_of_lt_of_le hz8 hg2.size;have HB2:=Aside0.mk (below_gb HBr.out hg2 (by rintro k ⟨rfl⟩;omega))))
  | (go_at_call 41;go_loud (refine(contains_calls A1_3 c1_3 l1_3 pb _ (Kd.C_below HR3.out (below_alloc HB2.out _)) HC3.out (by have:=HS.out;omega)).mono ?_);rintro e w9 ⟨rfl,⟨nd,rfl⟩⟩))
 ·have hpb : pb ∈ l1_3 := by assumption
  have hr:r=true:=by
   have h1:((pa,pb),pv)∈left:=hp2.mem_iff.2 List.mem_cons_self
   have h2:(pa,pb)∈mg.map (·.1):=List.mem_map_of_mem (f:=(·.1)) (Hp.out.mem_iff.2 (List.mem_append_right _ h1))
   rw [←HF.out,List.any_eq_true]
   exact⟨(pa,pb),(Hmg'.out (pa,pb)).1 h2,by simpa using hpb⟩
  subst hr
  go_ret
  exact⟨rfl,pw_below_drewN (below_alloc HB2.out _) _⟩
 ·have hpb : pb ∉ l1_3 := by assumption
  have Hpb:=Aside0.mk hpb
  have HI2:=Aside0.mk hi2
  have Hp2:=Aside0.mk hp2
  have Hg2:=Aside0.mk hg2
  clear hpb hi2 hp2 hg2 hen k43
  try go_wp2
  go_roundg left2.length
  case measure=>have:=Hn1.out;have:=Hp2.out.length_eq;simp at this;omega
  case' rel=>skip
  refine⟨left2,done ++ [((pa,pb),pv)],⟨rfl⟩,⟨?_⟩,⟨(HI2.out.alloc _).move rfl rfl⟩,⟨?_⟩,⟨gb_drewN (gb_alloc (gb_new Hg.out Hg2.out (Nat.le_refl _)) _) _⟩⟩
  ·rw [List.append_assoc]
   exact Hp.out.trans (Hp2.out.append_left done)
  intro p hp
  rcases List.mem_append.1 hp with hp|hp
  ·exact Hd.out p hp
  simp at hp
  subst hp
  exact Hpb.out
 have hr:r=false:=by
  rw [←HF.out,List.any_eq_false]
  intro p hp
  have h2:=(Hmg'.out p).2 hp
  obtain⟨q,hq,rfl⟩:=List.mem_map.1 h2
  have h3:=Hp.out.mem_iff.1 hq
  rw [HL0.out,List.append_nil] at h3
  have:=Hd.out q h3
  simpa using this
 subst hr
 go_ret
 exact⟨rfl,HBr.out⟩
end Go.Proofs.Ytjkhdldgmkkhjaa.P
