-- Written by pack2.py: this session's texts and the printer's, pruned.
import Derived.Test.YtagkhoeidjlahaaDoorCSe2
import Derived.Test.YtagkhoeidjlahaaDoorCSe24
import Derived.Test.YtagkhoeidjlahaaDoorCSe26
import Derived.Test.YtagkhoeidjlahaaDoorCSe23
namespace Go.Proofs.YtagkhoeidjlahaaDoor.G
open Go.RowKit Go.Proofs.YtagkhoeidjlahaaDoorW.PrintWords Go.Proofs.YtagkhoeidjlahaaDoorW.PrintLast Go.Proofs.YtagkhoeidjlahaaDoorW.PrintMore
attribute [local go_sem] max2_int min2_int max_two min_two max_three min_three max_four min_four
set_option linter.unusedVariables false
set_option linter.unusedSimpArgs false
def vinculumref10_Index.l0 : Nat → List Int → List (List Int) → Int → Option (Int × Int)
 | 0, _, _, _ => none
 | k + 1, x1, x6, x8 => if x8 < (x6.length : Int) then (if 0 ≤ x8 then ((vinculumref10_Compare.f k (rd_L5 x6 x8) x1).bind fun t479 => (if t479 = 0 then (some (x8, 0)) else (vinculumref10_Index.l0 k x1 x6 (wrap64 (x8 + 1))))) else (none)) else (some (0, 2))
def vinculumref10_Index.f (k : Nat) (a0_0 : Int) (a0_1 : ByteArray) (a0_2 : Int) (l0_3 : List (S36)) (l1 : List Int) : Option (Int × Int) := (vinculumref10_All.f k a0_0 a0_1 a0_2 l0_3).bind fun bt474 => (if bt474.2 = 0 then (vinculumref10_Index.l0 k l1 bt474.1 0) else (some (0, bt474.2)))
set_option maxHeartbeats 8000000 in
set_option maxRecDepth 100000 in
theorem vinculumref10_Index.calls (k : Nat) (a0_0 : Int) (a0_1 : ByteArray) (a0_2 : Int) (A0_3 : Option Addr) (c0_3 : Nat) (l0_3 : List (S36)) (A1 : Option Addr) (c1 : Nat) (l1 : List Int) (r1 : Int) (r2 : Int) (w : World) (hr0_3 : Kd.C k36 w A0_3 l0_3.length l0_3) (hc0_3 : l0_3.length ≤ c0_3) (hr1 : Kd.C (Kd.int .i64) w A1 l1.length l1) (hc1 : l1.length ≤ c1) (h : vinculumref10_Index.f k a0_0 a0_1 a0_2 l0_3 l1 = some (r1, r2)) :
  Calls Tryd.prog 28 #[.agg #[.int .i64 a0_0, .string a0_1, .int .i64 a0_2, .slice A0_3 l0_3.length c0_3], .slice A1 l1.length c1] w fun e w' => e = .returned (.tuple #[.int .i64 r1, .int .i64 r2]) ∧ Below w.heap.size w w' := by
 have hu36 := Tryd.underlying36
 have HR0_3 := Aside0.mk hr0_3
 have HC0_3 := Aside0.mk hc0_3
 clear hr0_3 hc0_3
 have HR1 := Aside0.mk hr1
 have HC1 := Aside0.mk hc1
 clear hr1 hc1
 have HB := Aside0.mk (Below.refl w.heap.size w)
 have H : ((vinculumref10_All.f k a0_0 a0_1 a0_2 l0_3).bind fun bt474 => (if bt474.2 = 0 then (vinculumref10_Index.l0 k l1 bt474.1 0) else (some (0, bt474.2)))) = some (r1, r2) := h
 clear h
 replace H := Option.bind_eq_some_iff.mp H
 obtain ⟨⟨t474, t477⟩, A30, H⟩ := H
 replace H : (if t477 = 0 then (vinculumref10_Index.l0 k l1 t474 0) else (some (0, t477))) = some (r1, r2) := H
 have A3 := Aside0.mk A30
 clear A30
 by_cases c4 : t477 = 0
 ·
  rw [if_pos c4] at H
  have c4b0 : (t477 == 0) = true := beq_iff_eq.mpr c4
  have c4b1 : (t477 != 0) = false := bne_eq_false_iff_eq.mpr c4
  clear c4
  have H' := Aside0.mk H
  clear H
  go_enter Tryd.func28, Tryd.ntmps28
  go_wp2_with (first | ((with_reducible refine gate_dst (N := 2) rfl ?_); refine box_event ?hg (N := 2) ?hd (cs := #[.int .i64 a0_0, .string a0_1, .int .i64 a0_2, .slice A0_3 l0_3.length c0_3]) (t := 36) ?hr ?_; (case hd => rfl); (case hg => rfl); (case hr => first | (go_simp; done) | (go_simp; rfl)); intro gb473 hg w5 hbox hb; have n0_ := Aside0.mk (below_step (by repeat (first | (with_reducible first | exact HB.out | apply below_alloc | apply pw_below_drewN | apply below_drew1) | exact HB.out)) hb); have n1_ := Aside0.mk (hbox); have n2_ := Aside0.mk ((by rw [hg]; exact (below_size (by repeat (first | (with_reducible first | exact HB.out | apply below_alloc | apply pw_below_drewN | apply below_drew1) | exact HB.out))) : w.heap.size ≤ gb473)); have n3_ := Aside0.mk ((by rw [hg]; exact (below_size (by repeat (first | (with_reducible first | exact HB.out | apply below_alloc | apply pw_below_drewN | apply below_drew1) | exact HB.out))) : w.heap.size ≤ gb473)); clear HB; have HB := n0_; have BK473 := n1_; have GW473 := n2_; have GE473 := n3_; clear n0_ n1_ n2_ n3_; clear hb hbox hg; have hcz6_0 : w5.cell? ⟨gb473, 0, none⟩ = some (.int .i64 a0_0) := (blk_cell BK473.out 0).trans rfl; have hcz6_1 : w5.cell? ⟨gb473, 1, none⟩ = some (.string a0_1) := (blk_cell BK473.out 1).trans rfl; have hcz6_2 : w5.cell? ⟨gb473, 2, none⟩ = some (.int .i64 a0_2) := (blk_cell BK473.out 2).trans rfl; have hcz6_3 : w5.cell? ⟨gb473, 3, none⟩ = some (.slice A0_3 l0_3.length c0_3) := (blk_cell BK473.out 3).trans rfl; have hfz6_0 := blk_frozen BK473.out 0; have hfz6_1 := blk_frozen BK473.out 1; have hfz6_2 := blk_frozen BK473.out 2; have hfz6_3 := blk_frozen BK473.out 3) | ((with_reducible refine gate_callee (f := 38) rfl ?_); refine goesL_ (some 11) rfl rfl Tryd.func38 (by kernel_rfl) rfl #[.agg #[.int .i64 a0_0, .string a0_1, .int .i64 a0_2, .slice A0_3 l0_3.length c0_3]] rfl (by (try simp only [List.map_toArray, List.map_cons, List.map_nil]); first | done | rfl | (simp only [List.length_drop, List.length_take]; rfl)) ?_; (with_reducible refine (vinculumref10_All.calls k a0_0 a0_1 a0_2 _ _ l0_3 t474 t477 _ ?side1 ?side2 A3.out).mono ?_); (case side1 => repeat (first | exact (Kd.C_below HR0_3.out HB.out) | (with_reducible refine Kd.C_alloc ?_ _) | (with_reducible refine Kd.C_drewN ?_ _) | (with_reducible refine Kd.C_drew ?_))); (case side2 => exact HC0_3.out); rintro e w7 ⟨v475, rfl, ho0, hb⟩; refine ⟨_, rfl, ?_⟩; have n0_ := Aside0.mk (Kd.N_lower (Kd.N_mono (ok' := fun k_ => k_ ≠ gb473) ho0 (fun k_ hk_ => (Kd.freshB (g := gb473) (o := .cells #[.int .i64 a0_0, .string a0_1, .int .i64 a0_2, .slice A0_3 l0_3.length c0_3] 36 (0, 0)) (by (with_reducible repeat (first | refine blk_drewN ?_ _ | refine blk_drew ?_ | refine blk_alloc ?_ _)); exact BK473.out) k_ hk_))) (below_size (by repeat (first | (with_reducible first | exact HB.out | apply below_alloc | apply pw_below_drewN | apply below_drew1 | refine below_set ?_ GE473.out) | exact HB.out)))); have n1_ := Aside0.mk (blk_below (g := gb473) (o := .cells #[.int .i64 a0_0, .string a0_1, .int .i64 a0_2, .slice A0_3 l0_3.length c0_3] 36 (0, 0)) (by (with_reducible repeat (first | refine blk_drewN ?_ _ | refine blk_drew ?_ | refine blk_alloc ?_ _)); exact BK473.out) hb); have n2_ := Aside0.mk (below_step (by repeat (first | (with_reducible first | exact HB.out | apply below_alloc | apply pw_below_drewN | apply below_drew1 | refine below_set ?_ GE473.out) | exact HB.out)) hb); clear BK473; clear HB; have HO476 := n0_; have BK473 := n1_; have HB := n2_; clear n0_ n1_ n2_; (try clear hb); (try clear hb2); (try clear hk); (try clear hi); (try clear ho0)))
  go_loopg [8] k (fun kq v8 w' => ∃ (x8_1 : Int), v8 = .int .i64 x8_1 ∧ Aside0 (vinculumref10_Index.l0 kq l1 t474 x8_1 = some (r1, r2)) ∧ Aside0 (kq ≤ k) ∧ Aside0 (Kd.N (Kd.slice 3 (Kd.int .i64)) 26 w' w.heap.size (fun k_ => k_ ≠ gb473) v475 t474) ∧ Aside0 (w'.heap[gb473]? = some (.cells #[.int .i64 a0_0, .string a0_1, .int .i64 a0_2, (.slice A0_3 l0_3.length c0_3)] 36 (0, 0))) ∧ Aside0 (Below w.heap.size w w'))
  case atStart => exact ⟨(0), (by first | rfl | (simp; done) | (simp [*]; done)), H', ⟨Nat.le_refl _⟩, ⟨by (with_reducible repeat (first | apply Kd.N_alloc | apply Kd.N_drewN | apply Kd.N_drew)); exact HO476.out⟩, ⟨by (with_reducible repeat (first | refine blk_drewN ?_ _ | refine blk_drew ?_ | refine blk_alloc ?_ _)); exact BK473.out⟩, ⟨by repeat (first | (with_reducible first | exact HB.out | apply below_alloc | apply pw_below_drewN | apply below_drew1 | refine below_set ?_ GE473.out) | exact HB.out)⟩⟩
  case round =>
   clear H'
   try clear c1
   try clear c2
   try clear p2
   try clear c3
   try clear c4
   try clear c4b0
   try clear c4b1
   try clear hcz6_0
   try clear hcz6_1
   try clear hcz6_2
   try clear hcz6_3
   try clear hfz6_0
   try clear hfz6_1
   try clear hfz6_2
   try clear hfz6_3
   obtain ⟨x8_1, rfl, HA, HK1, HO_6, BK473, HB⟩ := hrel
   cases gk with
   | zero => exact absurd HA.out (by simp [vinculumref10_Index.l0])
   | succ k1 =>
    have H := HA.out
    clear HA
    simp only [vinculumref10_Index.l0] at H
    by_cases c8 : x8_1 < (t474.length : Int)
    ·
     rw [if_pos c8] at H
     have c8b0 : decide (x8_1 < (t474.length : Int)) = true := decide_eq_true c8
     clear c8
     by_cases c9 : 0 ≤ x8_1
     ·
      rw [if_pos c9] at H
      have c9b0 : decide (0 ≤ x8_1) = true := decide_eq_true c9
      clear c9
      replace H := Option.bind_eq_some_iff.mp H
      obtain ⟨t479, A100, H⟩ := H
      replace H : (if t479 = 0 then (some (x8_1, 0)) else (vinculumref10_Index.l0 k1 l1 t474 (wrap64 (x8_1 + 1)))) = some (r1, r2) := H
      have A10 := Aside0.mk A100
      clear A100
      by_cases c11 : t479 = 0
      ·
       rw [if_pos c11] at H
       have c11b0 : (t479 == 0) = true := beq_iff_eq.mpr c11
       have c11b1 : (t479 != 0) = false := bne_eq_false_iff_eq.mpr c11
       clear c11
       simp only [Option.some.injEq, Prod.mk.injEq] at H
       obtain ⟨rfl, rfl⟩ := H
       obtain ⟨Ao12, co12, eo12⟩ := Kd.N_slice HO_6.out
       subst eo12
       have p478 : 0 ≤ (x8_1 : Int) := of_decide_eq_true (by first | (with_reducible assumption) | assumption)
       have q478 : x8_1 < (t474.length : Int) := of_decide_eq_true (by first | (with_reducible assumption) | assumption)
       obtain ⟨ad478, A478_0, c478_0, e478, hx478_0, hl478_0, hi478_0⟩ := at_L5 (Kd.N_reads' HO_6.out).2.2 x8_1 p478 q478
       cases e478
       obtain ⟨ce478, hce478, hMe478, hcc478⟩ := Kd.N_get HO_6.out [] x8_1 p478 (by first | exact q478 | exact of_decide_eq_true (by first | (with_reducible assumption) | assumption) | (have e_ := (Kd.N_reads' HO_6.out).1; omega))
       obtain ⟨ua478_0, uc478_0, rfl, ul478_0, ge478_0⟩ := Kd.FK_slice_open hMe478
       have hv478_0 := hcc478 0 _ rfl
       rw [Nat.add_zero, show ((Kd.slice 3 (Kd.int .i64))).sz = 1 from rfl, Nat.mul_one] at hv478_0
       replace hv478_0 := Option.some.inj (hv478_0.symm.trans hx478_0)
       injection hv478_0 with hva_ hvn_ hvc_
       rw [hva_] at ge478_0
       rw [hvc_] at ul478_0
       have HL478_0 := Aside0.mk (show Kd.V (Kd.int .i64) 3 _ w.heap.size _ _ (rd_L5 t474 x8_1) from Kd.V_mk ul478_0 ge478_0)
       clear hva_ hvn_ hvc_ ge478_0 ul478_0
       clear hcc478 hce478
       have HR478_0 := Aside0.mk hi478_0
       have HC478_0 := Aside0.mk hl478_0
       clear hi478_0 hl478_0
       replace p478 := eq_true p478
       replace q478 := eq_true q478
       go_wp2_with (first | ((with_reducible refine gate_callee (f := 33) rfl ?_); refine goesL_ (some 28) rfl rfl Tryd.func33 (by kernel_rfl) rfl #[.slice A478_0 (rd_L5 t474 x8_1).length c478_0, .slice A1 l1.length c1] rfl (by (try simp only [List.map_toArray, List.map_cons, List.map_nil]); first | done | rfl | (simp only [List.length_drop, List.length_take]; rfl)) ?_; (with_reducible refine (vinculumref10_Compare.calls k1 _ _ (rd_L5 t474 x8_1) _ _ l1 t479 _ ?side1 ?side2 ?side3 ?side4 A10.out).mono ?_); (case side1 => repeat (first | exact (by repeat (first | (with_reducible exact HR478_0.out) | (with_reducible refine Kd.C_alloc ?_ _) | (with_reducible refine Kd.C_drewN ?_ _) | (with_reducible refine Kd.C_drew ?_) | exact HR478_0.out)) | (with_reducible refine Kd.C_alloc ?_ _) | (with_reducible refine Kd.C_drewN ?_ _) | (with_reducible refine Kd.C_drew ?_))); (case side2 => exact HC478_0.out); (case side3 => repeat (first | exact (Kd.C_below HR1.out HB.out) | (with_reducible refine Kd.C_alloc ?_ _) | (with_reducible refine Kd.C_drewN ?_ _) | (with_reducible refine Kd.C_drew ?_))); (case side4 => exact HC1.out); rintro e w' ⟨rfl, ⟨nd, rfl⟩⟩; refine ⟨_, rfl, ?_⟩))
       go_ret2
       exact ⟨by first | rfl | (simp [errW_none, errW_some] <;> rfl) | (simp [*, errW_none, errW_some] <;> rfl), by repeat (first | (with_reducible first | exact HB.out | apply below_alloc | apply pw_below_drewN | apply below_drew1 | refine below_set ?_ GE473.out) | exact HB.out)⟩
      ·
       rw [if_neg c11] at H
       have c11b0 : (t479 == 0) = false := beq_eq_false_iff_ne.mpr c11
       have c11b1 : (t479 != 0) = true := bne_iff_ne.mpr c11
       have H' := Aside0.mk H
       clear H
       obtain ⟨Ao13, co13, eo13⟩ := Kd.N_slice HO_6.out
       subst eo13
       have p478 : 0 ≤ (x8_1 : Int) := of_decide_eq_true (by first | (with_reducible assumption) | assumption)
       have q478 : x8_1 < (t474.length : Int) := of_decide_eq_true (by first | (with_reducible assumption) | assumption)
       obtain ⟨ad478, A478_0, c478_0, e478, hx478_0, hl478_0, hi478_0⟩ := at_L5 (Kd.N_reads' HO_6.out).2.2 x8_1 p478 q478
       cases e478
       obtain ⟨ce478, hce478, hMe478, hcc478⟩ := Kd.N_get HO_6.out [] x8_1 p478 (by first | exact q478 | exact of_decide_eq_true (by first | (with_reducible assumption) | assumption) | (have e_ := (Kd.N_reads' HO_6.out).1; omega))
       obtain ⟨ua478_0, uc478_0, rfl, ul478_0, ge478_0⟩ := Kd.FK_slice_open hMe478
       have hv478_0 := hcc478 0 _ rfl
       rw [Nat.add_zero, show ((Kd.slice 3 (Kd.int .i64))).sz = 1 from rfl, Nat.mul_one] at hv478_0
       replace hv478_0 := Option.some.inj (hv478_0.symm.trans hx478_0)
       injection hv478_0 with hva_ hvn_ hvc_
       rw [hva_] at ge478_0
       rw [hvc_] at ul478_0
       have HL478_0 := Aside0.mk (show Kd.V (Kd.int .i64) 3 _ w.heap.size _ _ (rd_L5 t474 x8_1) from Kd.V_mk ul478_0 ge478_0)
       clear hva_ hvn_ hvc_ ge478_0 ul478_0
       clear hcc478 hce478
       have HR478_0 := Aside0.mk hi478_0
       have HC478_0 := Aside0.mk hl478_0
       clear hi478_0 hl478_0
       replace p478 := eq_true p478
       replace q478 := eq_true q478
       go_wp2_with (first | ((with_reducible refine gate_callee (f := 33) rfl ?_); refine goesL_ (some 28) rfl rfl Tryd.func33 (by kernel_rfl) rfl #[.slice A478_0 (rd_L5 t474 x8_1).length c478_0, .slice A1 l1.length c1] rfl (by (try simp only [List.map_toArray, List.map_cons, List.map_nil]); first | done | rfl | (simp only [List.length_drop, List.length_take]; rfl)) ?_; (with_reducible refine (vinculumref10_Compare.calls k1 _ _ (rd_L5 t474 x8_1) _ _ l1 t479 _ ?side1 ?side2 ?side3 ?side4 A10.out).mono ?_); (case side1 => repeat (first | exact (by repeat (first | (with_reducible exact HR478_0.out) | (with_reducible refine Kd.C_alloc ?_ _) | (with_reducible refine Kd.C_drewN ?_ _) | (with_reducible refine Kd.C_drew ?_) | exact HR478_0.out)) | (with_reducible refine Kd.C_alloc ?_ _) | (with_reducible refine Kd.C_drewN ?_ _) | (with_reducible refine Kd.C_drew ?_))); (case side2 => exact HC478_0.out); (case side3 => repeat (first | exact (Kd.C_below HR1.out HB.out) | (with_reducible refine Kd.C_alloc ?_ _) | (with_reducible refine Kd.C_drewN ?_ _) | (with_reducible refine Kd.C_drew ?_))); (case side4 => exact HC1.out); rintro e w' ⟨rfl, ⟨nd, rfl⟩⟩; refine ⟨_, rfl, ?_⟩))
       go_roundg k1
       case measure => have := HK1.out; omega
       case rel => exact ⟨(wrap64 (x8_1 + 1)), (by first | rfl | (simp; done) | (simp [*]; done)), H', ⟨by have := HK1.out; omega⟩, ⟨by (with_reducible repeat (first | apply Kd.N_alloc | apply Kd.N_drewN | apply Kd.N_drew)); exact HO_6.out⟩, ⟨by (with_reducible repeat (first | refine blk_drewN ?_ _ | refine blk_drew ?_ | refine blk_alloc ?_ _)); exact BK473.out⟩, ⟨by repeat (first | (with_reducible first | exact HB.out | apply below_alloc | apply pw_below_drewN | apply below_drew1 | refine below_set ?_ GE473.out) | exact HB.out)⟩⟩
     ·
      rw [if_neg c9] at H
      exact absurd H (by simp)
    ·
     rw [if_neg c8] at H
     have c8b0 : decide (x8_1 < (t474.length : Int)) = false := decide_eq_false c8
     clear c8
     simp only [Option.some.injEq, Prod.mk.injEq] at H
     obtain ⟨rfl, rfl⟩ := H
     obtain ⟨Ao14, co14, eo14⟩ := Kd.N_slice HO_6.out
     subst eo14
     go_wp2
     go_ret2
     exact ⟨by first | rfl | (simp [errW_none, errW_some] <;> rfl) | (simp [*, errW_none, errW_some] <;> rfl), by repeat (first | (with_reducible first | exact HB.out | apply below_alloc | apply pw_below_drewN | apply below_drew1 | refine below_set ?_ GE473.out) | exact HB.out)⟩
 ·
  rw [if_neg c4] at H
  have c4b0 : (t477 == 0) = false := beq_eq_false_iff_ne.mpr c4
  have c4b1 : (t477 != 0) = true := bne_iff_ne.mpr c4
  simp only [Option.some.injEq, Prod.mk.injEq] at H
  obtain ⟨rfl, rfl⟩ := H
  go_enter Tryd.func28, Tryd.ntmps28
  go_wp2_with (first | ((with_reducible refine gate_dst (N := 2) rfl ?_); refine box_event ?hg (N := 2) ?hd (cs := #[.int .i64 a0_0, .string a0_1, .int .i64 a0_2, .slice A0_3 l0_3.length c0_3]) (t := 36) ?hr ?_; (case hd => rfl); (case hg => rfl); (case hr => first | (go_simp; done) | (go_simp; rfl)); intro gb473 hg w15 hbox hb; have n0_ := Aside0.mk (below_step (by repeat (first | (with_reducible first | exact HB.out | apply below_alloc | apply pw_below_drewN | apply below_drew1) | exact HB.out)) hb); have n1_ := Aside0.mk (hbox); have n2_ := Aside0.mk ((by rw [hg]; exact (below_size (by repeat (first | (with_reducible first | exact HB.out | apply below_alloc | apply pw_below_drewN | apply below_drew1) | exact HB.out))) : w.heap.size ≤ gb473)); have n3_ := Aside0.mk ((by rw [hg]; exact (below_size (by repeat (first | (with_reducible first | exact HB.out | apply below_alloc | apply pw_below_drewN | apply below_drew1) | exact HB.out))) : w.heap.size ≤ gb473)); clear HB; have HB := n0_; have BK473 := n1_; have GW473 := n2_; have GE473 := n3_; clear n0_ n1_ n2_ n3_; clear hb hbox hg; have hcz16_0 : w15.cell? ⟨gb473, 0, none⟩ = some (.int .i64 a0_0) := (blk_cell BK473.out 0).trans rfl; have hcz16_1 : w15.cell? ⟨gb473, 1, none⟩ = some (.string a0_1) := (blk_cell BK473.out 1).trans rfl; have hcz16_2 : w15.cell? ⟨gb473, 2, none⟩ = some (.int .i64 a0_2) := (blk_cell BK473.out 2).trans rfl; have hcz16_3 : w15.cell? ⟨gb473, 3, none⟩ = some (.slice A0_3 l0_3.length c0_3) := (blk_cell BK473.out 3).trans rfl; have hfz16_0 := blk_frozen BK473.out 0; have hfz16_1 := blk_frozen BK473.out 1; have hfz16_2 := blk_frozen BK473.out 2; have hfz16_3 := blk_frozen BK473.out 3) | ((with_reducible refine gate_callee (f := 38) rfl ?_); refine goesL_ (some 11) rfl rfl Tryd.func38 (by kernel_rfl) rfl #[.agg #[.int .i64 a0_0, .string a0_1, .int .i64 a0_2, .slice A0_3 l0_3.length c0_3]] rfl (by (try simp only [List.map_toArray, List.map_cons, List.map_nil]); first | done | rfl | (simp only [List.length_drop, List.length_take]; rfl)) ?_; (with_reducible refine (vinculumref10_All.calls k a0_0 a0_1 a0_2 _ _ l0_3 t474 t477 _ ?side1 ?side2 A3.out).mono ?_); (case side1 => repeat (first | exact (Kd.C_below HR0_3.out HB.out) | (with_reducible refine Kd.C_alloc ?_ _) | (with_reducible refine Kd.C_drewN ?_ _) | (with_reducible refine Kd.C_drew ?_))); (case side2 => exact HC0_3.out); rintro e w17 ⟨v475, rfl, ho0, hb⟩; refine ⟨_, rfl, ?_⟩; have n0_ := Aside0.mk (Kd.N_lower (Kd.N_mono (ok' := fun k_ => k_ ≠ gb473) ho0 (fun k_ hk_ => (Kd.freshB (g := gb473) (o := .cells #[.int .i64 a0_0, .string a0_1, .int .i64 a0_2, .slice A0_3 l0_3.length c0_3] 36 (0, 0)) (by (with_reducible repeat (first | refine blk_drewN ?_ _ | refine blk_drew ?_ | refine blk_alloc ?_ _)); exact BK473.out) k_ hk_))) (below_size (by repeat (first | (with_reducible first | exact HB.out | apply below_alloc | apply pw_below_drewN | apply below_drew1 | refine below_set ?_ GE473.out) | exact HB.out)))); have n1_ := Aside0.mk (blk_below (g := gb473) (o := .cells #[.int .i64 a0_0, .string a0_1, .int .i64 a0_2, .slice A0_3 l0_3.length c0_3] 36 (0, 0)) (by (with_reducible repeat (first | refine blk_drewN ?_ _ | refine blk_drew ?_ | refine blk_alloc ?_ _)); exact BK473.out) hb); have n2_ := Aside0.mk (below_step (by repeat (first | (with_reducible first | exact HB.out | apply below_alloc | apply pw_below_drewN | apply below_drew1 | refine below_set ?_ GE473.out) | exact HB.out)) hb); clear BK473; clear HB; have HO476 := n0_; have BK473 := n1_; have HB := n2_; clear n0_ n1_ n2_; (try clear hb); (try clear hb2); (try clear hk); (try clear hi); (try clear ho0)))
  go_ret2
  exact ⟨by first | rfl | (simp [errW_none, errW_some] <;> rfl) | (simp [*, errW_none, errW_some] <;> rfl), by repeat (first | (with_reducible first | exact HB.out | apply below_alloc | apply pw_below_drewN | apply below_drew1 | refine below_set ?_ GE473.out) | exact HB.out)⟩
def position_Valid.f (k : Nat) (a0_0 : Int) (a0_1 : ByteArray) (a0_2 : Int) (l0_3 : List (S36)) (l1 : List Int) : Option (Bool) := (position_Index.f k a0_0 a0_1 a0_2 l0_3 l1).bind fun bt612 => (some (bt612.2 == 0))
set_option maxHeartbeats 8000000 in
set_option maxRecDepth 100000 in
theorem position_Valid.calls (k : Nat) (a0_0 : Int) (a0_1 : ByteArray) (a0_2 : Int) (A0_3 : Option Addr) (c0_3 : Nat) (l0_3 : List (S36)) (A1 : Option Addr) (c1 : Nat) (l1 : List Int) (r : Bool) (w : World) (hr0_3 : Kd.C k36 w A0_3 l0_3.length l0_3) (hc0_3 : l0_3.length ≤ c0_3) (hr1 : Kd.C (Kd.int .i64) w A1 l1.length l1) (hc1 : l1.length ≤ c1) (h : position_Valid.f k a0_0 a0_1 a0_2 l0_3 l1 = some r) :
  Calls Tryd.prog 41 #[.agg #[.int .i64 a0_0, .string a0_1, .int .i64 a0_2, .slice A0_3 l0_3.length c0_3], .slice A1 l1.length c1] w fun e w' => e = .returned (.bool r) ∧ Below w.heap.size w w' := by
 have hu36 := Tryd.underlying36
 have HR0_3 := Aside0.mk hr0_3
 have HC0_3 := Aside0.mk hc0_3
 clear hr0_3 hc0_3
 have HR1 := Aside0.mk hr1
 have HC1 := Aside0.mk hc1
 clear hr1 hc1
 have HB := Aside0.mk (Below.refl w.heap.size w)
 have H : ((position_Index.f k a0_0 a0_1 a0_2 l0_3 l1).bind fun bt612 => (some (bt612.2 == 0))) = some r := h
 clear h
 replace H := Option.bind_eq_some_iff.mp H
 obtain ⟨⟨t612, t613⟩, A30, H⟩ := H
 replace H : (some (t613 == 0)) = some r := H
 have A3 := Aside0.mk A30
 clear A30
 obtain rfl := Option.some.inj H
 go_enter Tryd.func41, Tryd.ntmps41
 go_wp2_with (first | ((with_reducible refine gate_dst (N := 2) rfl ?_); refine box_event ?hg (N := 2) ?hd (cs := #[.int .i64 a0_0, .string a0_1, .int .i64 a0_2, .slice A0_3 l0_3.length c0_3]) (t := 36) ?hr ?_; (case hd => rfl); (case hg => rfl); (case hr => first | (go_simp; done) | (go_simp; rfl)); intro gb611 hg w4 hbox hb; have n0_ := Aside0.mk (below_step (by repeat (first | (with_reducible first | exact HB.out | apply below_alloc | apply pw_below_drewN | apply below_drew1) | exact HB.out)) hb); have n1_ := Aside0.mk (hbox); have n2_ := Aside0.mk ((by rw [hg]; exact (below_size (by repeat (first | (with_reducible first | exact HB.out | apply below_alloc | apply pw_below_drewN | apply below_drew1) | exact HB.out))) : w.heap.size ≤ gb611)); have n3_ := Aside0.mk ((by rw [hg]; exact (below_size (by repeat (first | (with_reducible first | exact HB.out | apply below_alloc | apply pw_below_drewN | apply below_drew1) | exact HB.out))) : w.heap.size ≤ gb611)); clear HB; have HB := n0_; have BK611 := n1_; have GW611 := n2_; have GE611 := n3_; clear n0_ n1_ n2_ n3_; clear hb hbox hg; have hcz5_0 : w4.cell? ⟨gb611, 0, none⟩ = some (.int .i64 a0_0) := (blk_cell BK611.out 0).trans rfl; have hcz5_1 : w4.cell? ⟨gb611, 1, none⟩ = some (.string a0_1) := (blk_cell BK611.out 1).trans rfl; have hcz5_2 : w4.cell? ⟨gb611, 2, none⟩ = some (.int .i64 a0_2) := (blk_cell BK611.out 2).trans rfl; have hcz5_3 : w4.cell? ⟨gb611, 3, none⟩ = some (.slice A0_3 l0_3.length c0_3) := (blk_cell BK611.out 3).trans rfl; have hfz5_0 := blk_frozen BK611.out 0; have hfz5_1 := blk_frozen BK611.out 1; have hfz5_2 := blk_frozen BK611.out 2; have hfz5_3 := blk_frozen BK611.out 3) | ((with_reducible refine gate_callee (f := 27) rfl ?_); refine goesL_ (some 10) rfl rfl Tryd.func27 (by kernel_rfl) rfl #[.agg #[.int .i64 a0_0, .string a0_1, .int .i64 a0_2, .slice A0_3 l0_3.length c0_3], .slice A1 l1.length c1] rfl (by (try simp only [List.map_toArray, List.map_cons, List.map_nil]); first | done | rfl | (simp only [List.length_drop, List.length_take]; rfl)) ?_; (with_reducible refine (position_Index.calls k a0_0 a0_1 a0_2 _ _ l0_3 _ _ l1 t612 t613 _ ?side1 ?side2 ?side3 ?side4 A3.out).mono ?_); (case side1 => repeat (first | exact (Kd.C_below HR0_3.out HB.out) | (with_reducible refine Kd.C_alloc ?_ _) | (with_reducible refine Kd.C_drewN ?_ _) | (with_reducible refine Kd.C_drew ?_))); (case side2 => exact HC0_3.out); (case side3 => repeat (first | exact (Kd.C_below HR1.out HB.out) | (with_reducible refine Kd.C_alloc ?_ _) | (with_reducible refine Kd.C_drewN ?_ _) | (with_reducible refine Kd.C_drew ?_))); (case side4 => exact HC1.out); rintro e w6 ⟨rfl, hb⟩; refine ⟨_, rfl, ?_⟩; have n0_ := Aside0.mk (blk_below (g := gb611) (o := .cells #[.int .i64 a0_0, .string a0_1, .int .i64 a0_2, .slice A0_3 l0_3.length c0_3] 36 (0, 0)) (by (with_reducible repeat (first | refine blk_drewN ?_ _ | refine blk_drew ?_ | refine blk_alloc ?_ _)); exact BK611.out) hb); have n1_ := Aside0.mk (below_step (by repeat (first | (with_reducible first | exact HB.out | apply below_alloc | apply pw_below_drewN | apply below_drew1 | refine below_set ?_ GE611.out) | exact HB.out)) hb); clear BK611; clear HB; have BK611 := n0_; have HB := n1_; clear n0_ n1_; (try clear hb); (try clear hb2); (try clear hk); (try clear hi)))
 go_ret
 exact ⟨by first | rfl | (simp [errW_none, errW_some] <;> rfl) | (simp [*, errW_none, errW_some] <;> rfl), by repeat (first | (with_reducible first | exact HB.out | apply below_alloc | apply pw_below_drewN | apply below_drew1 | refine below_set ?_ GE611.out) | exact HB.out)⟩
def vinculumref10_Valid.f (k : Nat) (a0_0 : Int) (a0_1 : ByteArray) (a0_2 : Int) (l0_3 : List (S36)) (l1 : List Int) : Option (Bool) := (vinculumref10_Index.f k a0_0 a0_1 a0_2 l0_3 l1).bind fun bt615 => (some (bt615.2 == 0))
set_option maxHeartbeats 8000000 in
set_option maxRecDepth 100000 in
theorem vinculumref10_Valid.calls (k : Nat) (a0_0 : Int) (a0_1 : ByteArray) (a0_2 : Int) (A0_3 : Option Addr) (c0_3 : Nat) (l0_3 : List (S36)) (A1 : Option Addr) (c1 : Nat) (l1 : List Int) (r : Bool) (w : World) (hr0_3 : Kd.C k36 w A0_3 l0_3.length l0_3) (hc0_3 : l0_3.length ≤ c0_3) (hr1 : Kd.C (Kd.int .i64) w A1 l1.length l1) (hc1 : l1.length ≤ c1) (h : vinculumref10_Valid.f k a0_0 a0_1 a0_2 l0_3 l1 = some r) :
  Calls Tryd.prog 42 #[.agg #[.int .i64 a0_0, .string a0_1, .int .i64 a0_2, .slice A0_3 l0_3.length c0_3], .slice A1 l1.length c1] w fun e w' => e = .returned (.bool r) ∧ Below w.heap.size w w' := by
 have hu36 := Tryd.underlying36
 have HR0_3 := Aside0.mk hr0_3
 have HC0_3 := Aside0.mk hc0_3
 clear hr0_3 hc0_3
 have HR1 := Aside0.mk hr1
 have HC1 := Aside0.mk hc1
 clear hr1 hc1
 have HB := Aside0.mk (Below.refl w.heap.size w)
 have H : ((vinculumref10_Index.f k a0_0 a0_1 a0_2 l0_3 l1).bind fun bt615 => (some (bt615.2 == 0))) = some r := h
 clear h
 replace H := Option.bind_eq_some_iff.mp H
 obtain ⟨⟨t615, t616⟩, A30, H⟩ := H
 replace H : (some (t616 == 0)) = some r := H
 have A3 := Aside0.mk A30
 clear A30
 obtain rfl := Option.some.inj H
 go_enter Tryd.func42, Tryd.ntmps42
 go_wp2_with (first | ((with_reducible refine gate_dst (N := 2) rfl ?_); refine box_event ?hg (N := 2) ?hd (cs := #[.int .i64 a0_0, .string a0_1, .int .i64 a0_2, .slice A0_3 l0_3.length c0_3]) (t := 36) ?hr ?_; (case hd => rfl); (case hg => rfl); (case hr => first | (go_simp; done) | (go_simp; rfl)); intro gb614 hg w4 hbox hb; have n0_ := Aside0.mk (below_step (by repeat (first | (with_reducible first | exact HB.out | apply below_alloc | apply pw_below_drewN | apply below_drew1) | exact HB.out)) hb); have n1_ := Aside0.mk (hbox); have n2_ := Aside0.mk ((by rw [hg]; exact (below_size (by repeat (first | (with_reducible first | exact HB.out | apply below_alloc | apply pw_below_drewN | apply below_drew1) | exact HB.out))) : w.heap.size ≤ gb614)); have n3_ := Aside0.mk ((by rw [hg]; exact (below_size (by repeat (first | (with_reducible first | exact HB.out | apply below_alloc | apply pw_below_drewN | apply below_drew1) | exact HB.out))) : w.heap.size ≤ gb614)); clear HB; have HB := n0_; have BK614 := n1_; have GW614 := n2_; have GE614 := n3_; clear n0_ n1_ n2_ n3_; clear hb hbox hg; have hcz5_0 : w4.cell? ⟨gb614, 0, none⟩ = some (.int .i64 a0_0) := (blk_cell BK614.out 0).trans rfl; have hcz5_1 : w4.cell? ⟨gb614, 1, none⟩ = some (.string a0_1) := (blk_cell BK614.out 1).trans rfl; have hcz5_2 : w4.cell? ⟨gb614, 2, none⟩ = some (.int .i64 a0_2) := (blk_cell BK614.out 2).trans rfl; have hcz5_3 : w4.cell? ⟨gb614, 3, none⟩ = some (.slice A0_3 l0_3.length c0_3) := (blk_cell BK614.out 3).trans rfl; have hfz5_0 := blk_frozen BK614.out 0; have hfz5_1 := blk_frozen BK614.out 1; have hfz5_2 := blk_frozen BK614.out 2; have hfz5_3 := blk_frozen BK614.out 3) | ((with_reducible refine gate_callee (f := 28) rfl ?_); refine goesL_ (some 10) rfl rfl Tryd.func28 (by kernel_rfl) rfl #[.agg #[.int .i64 a0_0, .string a0_1, .int .i64 a0_2, .slice A0_3 l0_3.length c0_3], .slice A1 l1.length c1] rfl (by (try simp only [List.map_toArray, List.map_cons, List.map_nil]); first | done | rfl | (simp only [List.length_drop, List.length_take]; rfl)) ?_; (with_reducible refine (vinculumref10_Index.calls k a0_0 a0_1 a0_2 _ _ l0_3 _ _ l1 t615 t616 _ ?side1 ?side2 ?side3 ?side4 A3.out).mono ?_); (case side1 => repeat (first | exact (Kd.C_below HR0_3.out HB.out) | (with_reducible refine Kd.C_alloc ?_ _) | (with_reducible refine Kd.C_drewN ?_ _) | (with_reducible refine Kd.C_drew ?_))); (case side2 => exact HC0_3.out); (case side3 => repeat (first | exact (Kd.C_below HR1.out HB.out) | (with_reducible refine Kd.C_alloc ?_ _) | (with_reducible refine Kd.C_drewN ?_ _) | (with_reducible refine Kd.C_drew ?_))); (case side4 => exact HC1.out); rintro e w6 ⟨rfl, hb⟩; refine ⟨_, rfl, ?_⟩; have n0_ := Aside0.mk (blk_below (g := gb614) (o := .cells #[.int .i64 a0_0, .string a0_1, .int .i64 a0_2, .slice A0_3 l0_3.length c0_3] 36 (0, 0)) (by (with_reducible repeat (first | refine blk_drewN ?_ _ | refine blk_drew ?_ | refine blk_alloc ?_ _)); exact BK614.out) hb); have n1_ := Aside0.mk (below_step (by repeat (first | (with_reducible first | exact HB.out | apply below_alloc | apply pw_below_drewN | apply below_drew1 | refine below_set ?_ GE614.out) | exact HB.out)) hb); clear BK614; clear HB; have BK614 := n0_; have HB := n1_; clear n0_ n1_; (try clear hb); (try clear hb2); (try clear hk); (try clear hi)))
 go_ret
 exact ⟨by first | rfl | (simp [errW_none, errW_some] <;> rfl) | (simp [*, errW_none, errW_some] <;> rfl), by repeat (first | (with_reducible first | exact HB.out | apply below_alloc | apply pw_below_drewN | apply below_drew1 | refine below_set ?_ GE614.out) | exact HB.out)⟩
end Go.Proofs.YtagkhoeidjlahaaDoor.G
