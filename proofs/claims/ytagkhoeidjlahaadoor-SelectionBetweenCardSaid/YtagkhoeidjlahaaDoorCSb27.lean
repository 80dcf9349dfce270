-- Written by pack2.py, a program of this session: this session's texts and those that the kit's printer wrote for this claim, pruned to what the claims use.
import Derived.Test.YtagkhoeidjlahaaDoorCSb2
import Derived.Test.YtagkhoeidjlahaaDoorCSb24
import Derived.Test.YtagkhoeidjlahaaDoorCSb23
import Derived.Test.YtagkhoeidjlahaaDoorCSb22
import Derived.Test.YtagkhoeidjlahaaDoorCSb26
import Derived.Test.YtagkhoeidjlahaaDoorCSb25
namespace Go.Proofs.YtagkhoeidjlahaaDoor.G
open Go.RowKit Go.Proofs.YtagkhoeidjlahaaDoorW.PrintWords Go.Proofs.YtagkhoeidjlahaaDoorW.PrintLast Go.Proofs.YtagkhoeidjlahaaDoorW.PrintMore
attribute [local go_sem] max2_int min2_int max_two min_two max_three min_three max_four min_four
set_option linter.unusedVariables false
set_option linter.unusedSimpArgs false
def vinculumref11_Of.f (k : Nat) (a0_0 : Int) (a0_1 : ByteArray) (a0_2 : Int) (l0_3 : List (S36)) (l1_0 : List Int) (l1_1 : List Int) : Option (List Int × Int × Int × Int) := if (l1_1.length : Int) = 0 then ((vinculumref11_Between.f k a0_0 a0_1 a0_2 l0_3 l1_0 l1_0).bind fun bt702 => (some (bt702.1, bt702.2.1, bt702.2.2.1, bt702.2.2.2))) else ((vinculumref11_Between.f k a0_0 a0_1 a0_2 l0_3 l1_0 l1_1).bind fun bt708 => (some (bt708.1, bt708.2.1, bt708.2.2.1, bt708.2.2.2)))
set_option maxHeartbeats 8000000 in
set_option maxRecDepth 100000 in
theorem vinculumref11_Of.calls (k : Nat) (a0_0 : Int) (a0_1 : ByteArray) (a0_2 : Int) (A0_3 : Option Addr) (c0_3 : Nat) (l0_3 : List (S36)) (A1_0 : Option Addr) (c1_0 : Nat) (l1_0 : List Int) (A1_1 : Option Addr) (c1_1 : Nat) (l1_1 : List Int) (r1 : List Int) (r2 : Int) (r3 : Int) (r4 : Int) (w : World) (hr0_3 : Kd.C k36 w A0_3 l0_3.length l0_3) (hc0_3 : l0_3.length ≤ c0_3) (hr1_0 : Kd.C (Kd.int .i64) w A1_0 l1_0.length l1_0) (hc1_0 : l1_0.length ≤ c1_0) (hr1_1 : Kd.C (Kd.int .i64) w A1_1 l1_1.length l1_1) (hc1_1 : l1_1.length ≤ c1_1) (h : vinculumref11_Of.f k a0_0 a0_1 a0_2 l0_3 l1_0 l1_1 = some (r1, r2, r3, r4)) :
  Calls Tryd.prog 50 #[.agg #[.int .i64 a0_0, .string a0_1, .int .i64 a0_2, .slice A0_3 l0_3.length c0_3], .agg #[.slice A1_0 l1_0.length c1_0, .slice A1_1 l1_1.length c1_1]] w fun e w' => ∃ v0_ : Value, e = .returned (.tuple #[.agg #[v0_, .int .i64 r2, .int .i64 r3], .int .i64 r4]) ∧ Kd.R (Kd.int .i64) 3 w' w.heap.size (fun _ => True) v0_ r1 ∧ Below w.heap.size w w' := by
 have hu36 := Tryd.underlying36
 have hu59 := Tryd.underlying59
 have hu54 := Tryd.underlying54
 have HR0_3 := Aside0.mk hr0_3
 have HC0_3 := Aside0.mk hc0_3
 clear hr0_3 hc0_3
 have HR1_0 := Aside0.mk hr1_0
 have HC1_0 := Aside0.mk hc1_0
 clear hr1_0 hc1_0
 have HR1_1 := Aside0.mk hr1_1
 have HC1_1 := Aside0.mk hc1_1
 clear hr1_1 hc1_1
 have HB := Aside0.mk (Below.refl w.heap.size w)
 have H : (if (l1_1.length : Int) = 0 then ((vinculumref11_Between.f k a0_0 a0_1 a0_2 l0_3 l1_0 l1_0).bind fun bt702 => (some (bt702.1, bt702.2.1, bt702.2.2.1, bt702.2.2.2))) else ((vinculumref11_Between.f k a0_0 a0_1 a0_2 l0_3 l1_0 l1_1).bind fun bt708 => (some (bt708.1, bt708.2.1, bt708.2.2.1, bt708.2.2.2)))) = some (r1, r2, r3, r4) := h
 clear h
 by_cases c3 : (l1_1.length : Int) = 0
 ·
  rw [if_pos c3] at H
  have c3b0 : ((l1_1.length : Int) == 0) = true := beq_iff_eq.mpr c3
  have c3b1 : ((l1_1.length : Int) != 0) = false := bne_eq_false_iff_eq.mpr c3
  clear c3
  replace H := Option.bind_eq_some_iff.mp H
  obtain ⟨⟨t702, t705, t706, t707⟩, A40, H⟩ := H
  replace H : (some (t702, t705, t706, t707)) = some (r1, r2, r3, r4) := H
  have A4 := Aside0.mk A40
  clear A40
  simp only [Option.some.injEq, Prod.mk.injEq] at H
  obtain ⟨rfl, rfl, rfl, rfl⟩ := H
  go_enter Tryd.func50, Tryd.ntmps50
  go_wp2_with (first | ((with_reducible refine gate_dst (N := 2) rfl ?_); refine box_event ?hg (N := 2) ?hd (cs := #[.int .i64 a0_0, .string a0_1, .int .i64 a0_2, .slice A0_3 l0_3.length c0_3]) (t := 36) ?hr ?_; (case hd => rfl); (case hg => rfl); (case hr => first | (go_simp; done) | (go_simp; rfl)); intro gb699 hg w5 hbox hb; have n0_ := Aside0.mk (below_step (by repeat (first | (with_reducible first | exact HB.out | apply below_alloc | apply pw_below_drewN | apply below_drew1) | exact HB.out)) hb); have n1_ := Aside0.mk (hbox); have n2_ := Aside0.mk ((by rw [hg]; exact (below_size (by repeat (first | (with_reducible first | exact HB.out | apply below_alloc | apply pw_below_drewN | apply below_drew1) | exact HB.out))) : w.heap.size ≤ gb699)); have n3_ := Aside0.mk ((by rw [hg]; exact (below_size (by repeat (first | (with_reducible first | exact HB.out | apply below_alloc | apply pw_below_drewN | apply below_drew1) | exact HB.out))) : w.heap.size ≤ gb699)); clear HB; have HB := n0_; have BK699 := n1_; have GW699 := n2_; have GE699 := n3_; clear n0_ n1_ n2_ n3_; clear hb hbox hg) | ((with_reducible refine gate_dst (N := 3) rfl ?_); refine box_event ?hg (N := 3) ?hd (cs := #[.slice A1_0 l1_0.length c1_0, .slice A1_1 l1_1.length c1_1]) (t := 59) ?hr ?_; (case hd => rfl); (case hg => rfl); (case hr => first | (go_simp; done) | (go_simp; rfl)); intro gb700 hg w6 hbox hb; have n0_ := Aside0.mk (blk_below (g := gb699) (o := .cells #[.int .i64 a0_0, .string a0_1, .int .i64 a0_2, .slice A0_3 l0_3.length c0_3] 36 (0, 0)) (by (with_reducible repeat (first | refine blk_drewN ?_ _ | refine blk_drew ?_ | refine blk_alloc ?_ _)); exact BK699.out) hb); have n1_ := Aside0.mk (below_step (by repeat (first | (with_reducible first | exact HB.out | apply below_alloc | apply pw_below_drewN | apply below_drew1 | refine below_set ?_ GE699.out) | exact HB.out)) hb); have n2_ := Aside0.mk (hbox); have n3_ := Aside0.mk ((by rw [hg]; exact (below_size (by repeat (first | (with_reducible first | exact HB.out | apply below_alloc | apply pw_below_drewN | apply below_drew1 | refine below_set ?_ GE699.out) | exact HB.out))) : w.heap.size ≤ gb700)); have n4_ := Aside0.mk ((by rw [hg]; exact (below_size (by repeat (first | (with_reducible first | exact HB.out | apply below_alloc | apply pw_below_drewN | apply below_drew1 | refine below_set ?_ GE699.out) | exact HB.out))) : w.heap.size ≤ gb700)); have n5_ := Aside0.mk ((by rw [hg]; exact Nat.ne_of_lt (blk_lt (g := gb699) (o := .cells #[.int .i64 a0_0, .string a0_1, .int .i64 a0_2, .slice A0_3 l0_3.length c0_3] 36 (0, 0)) (by (with_reducible repeat (first | refine blk_drewN ?_ _ | refine blk_drew ?_ | refine blk_alloc ?_ _)); exact BK699.out)) : gb699 ≠ gb700)); have n6_ := Aside0.mk ((by rw [hg]; exact Nat.ne_of_gt (blk_lt (g := gb699) (o := .cells #[.int .i64 a0_0, .string a0_1, .int .i64 a0_2, .slice A0_3 l0_3.length c0_3] 36 (0, 0)) (by (with_reducible repeat (first | refine blk_drewN ?_ _ | refine blk_drew ?_ | refine blk_alloc ?_ _)); exact BK699.out)) : gb700 ≠ gb699)); clear BK699; clear HB; have BK699 := n0_; have HB := n1_; have BK700 := n2_; have GW700 := n3_; have GE700 := n4_; have NB699_700 := n5_; have NB700_699 := n6_; clear n0_ n1_ n2_ n3_ n4_ n5_ n6_; clear hb hbox hg) | ((with_reducible refine gate_dst (N := 4) rfl ?_); refine box_event ?hg (N := 4) ?hd (cs := #[.slice none 0 0, .int .i64 0, .int .i64 0]) (t := 54) ?hr ?_; (case hd => rfl); (case hg => rfl); (case hr => first | (go_simp; done) | (go_simp; rfl)); intro gb701 hg w7 hbox hb; have n0_ := Aside0.mk (blk_below (g := gb699) (o := .cells #[.int .i64 a0_0, .string a0_1, .int .i64 a0_2, .slice A0_3 l0_3.length c0_3] 36 (0, 0)) (by (with_reducible repeat (first | refine blk_drewN ?_ _ | refine blk_drew ?_ | refine blk_alloc ?_ _)); exact BK699.out) hb); have n1_ := Aside0.mk (blk_below (g := gb700) (o := .cells #[.slice A1_0 l1_0.length c1_0, .slice A1_1 l1_1.length c1_1] 59 (0, 0)) (by (with_reducible repeat (first | refine blk_drewN ?_ _ | refine blk_drew ?_ | refine blk_alloc ?_ _)); exact BK700.out) hb); have n2_ := Aside0.mk (below_step (by repeat (first | (with_reducible first | exact HB.out | apply below_alloc | apply pw_below_drewN | apply below_drew1 | refine below_set ?_ GE699.out | refine below_set ?_ GE700.out) | exact HB.out)) hb); have n3_ := Aside0.mk (hbox); have n4_ := Aside0.mk ((by rw [hg]; exact (below_size (by repeat (first | (with_reducible first | exact HB.out | apply below_alloc | apply pw_below_drewN | apply below_drew1 | refine below_set ?_ GE699.out | refine below_set ?_ GE700.out) | exact HB.out))) : w.heap.size ≤ gb701)); have n5_ := Aside0.mk ((by rw [hg]; exact (below_size (by repeat (first | (with_reducible first | exact HB.out | apply below_alloc | apply pw_below_drewN | apply below_drew1 | refine below_set ?_ GE699.out | refine below_set ?_ GE700.out) | exact HB.out))) : w.heap.size ≤ gb701)); have n6_ := Aside0.mk ((by rw [hg]; exact Nat.ne_of_lt (blk_lt (g := gb699) (o := .cells #[.int .i64 a0_0, .string a0_1, .int .i64 a0_2, .slice A0_3 l0_3.length c0_3] 36 (0, 0)) (by (with_reducible repeat (first | refine blk_drewN ?_ _ | refine blk_drew ?_ | refine blk_alloc ?_ _)); exact BK699.out)) : gb699 ≠ gb701)); have n7_ := Aside0.mk ((by rw [hg]; exact Nat.ne_of_gt (blk_lt (g := gb699) (o := .cells #[.int .i64 a0_0, .string a0_1, .int .i64 a0_2, .slice A0_3 l0_3.length c0_3] 36 (0, 0)) (by (with_reducible repeat (first | refine blk_drewN ?_ _ | refine blk_drew ?_ | refine blk_alloc ?_ _)); exact BK699.out)) : gb701 ≠ gb699)); have n8_ := Aside0.mk ((by rw [hg]; exact Nat.ne_of_lt (blk_lt (g := gb700) (o := .cells #[.slice A1_0 l1_0.length c1_0, .slice A1_1 l1_1.length c1_1] 59 (0, 0)) (by (with_reducible repeat (first | refine blk_drewN ?_ _ | refine blk_drew ?_ | refine blk_alloc ?_ _)); exact BK700.out)) : gb700 ≠ gb701)); have n9_ := Aside0.mk ((by rw [hg]; exact Nat.ne_of_gt (blk_lt (g := gb700) (o := .cells #[.slice A1_0 l1_0.length c1_0, .slice A1_1 l1_1.length c1_1] 59 (0, 0)) (by (with_reducible repeat (first | refine blk_drewN ?_ _ | refine blk_drew ?_ | refine blk_alloc ?_ _)); exact BK700.out)) : gb701 ≠ gb700)); clear BK699; clear BK700; clear HB; have BK699 := n0_; have BK700 := n1_; have HB := n2_; have BK701 := n3_; have GW701 := n4_; have GE701 := n5_; have NB699_701 := n6_; have NB701_699 := n7_; have NB700_701 := n8_; have NB701_700 := n9_; clear n0_ n1_ n2_ n3_ n4_ n5_ n6_ n7_ n8_ n9_; clear hb hbox hg; have hnb8 := NB700_699.out; have hnc8 := NB699_700.out; have hnb9 := NB700_701.out; have hnc9 := NB701_700.out; have hcz10_0 : w7.cell? ⟨gb700, 0, none⟩ = some (.slice A1_0 l1_0.length c1_0) := (blk_cell BK700.out 0).trans rfl; have hcz10_1 : w7.cell? ⟨gb700, 1, none⟩ = some (.slice A1_1 l1_1.length c1_1) := (blk_cell BK700.out 1).trans rfl; have hfz10_0 := blk_frozen BK700.out 0; have hfz10_1 := blk_frozen BK700.out 1; have hnb11 := NB699_701.out; have hnc11 := NB701_699.out; have hcz12_0 : w7.cell? ⟨gb699, 0, none⟩ = some (.int .i64 a0_0) := (blk_cell BK699.out 0).trans rfl; have hcz12_1 : w7.cell? ⟨gb699, 1, none⟩ = some (.string a0_1) := (blk_cell BK699.out 1).trans rfl; have hcz12_2 : w7.cell? ⟨gb699, 2, none⟩ = some (.int .i64 a0_2) := (blk_cell BK699.out 2).trans rfl; have hcz12_3 : w7.cell? ⟨gb699, 3, none⟩ = some (.slice A0_3 l0_3.length c0_3) := (blk_cell BK699.out 3).trans rfl; have hfz12_0 := blk_frozen BK699.out 0; have hfz12_1 := blk_frozen BK699.out 1; have hfz12_2 := blk_frozen BK699.out 2; have hfz12_3 := blk_frozen BK699.out 3) | ((with_reducible refine gate_callee (f := 48) rfl ?_); refine goesL_ (some 15) rfl rfl Tryd.func48 (by kernel_rfl) rfl #[.agg #[.int .i64 a0_0, .string a0_1, .int .i64 a0_2, .slice A0_3 l0_3.length c0_3], .slice A1_0 l1_0.length c1_0, .slice A1_0 l1_0.length c1_0] rfl (by (try simp only [List.map_toArray, List.map_cons, List.map_nil]); first | done | rfl | (simp only [List.length_drop, List.length_take]; rfl)) ?_; (with_reducible refine (vinculumref11_Between.calls k a0_0 a0_1 a0_2 _ _ l0_3 _ _ l1_0 _ _ l1_0 t702 t705 t706 t707 _ ?side1 ?side2 ?side3 ?side4 ?side5 ?side6 A4.out).mono ?_); (case side1 => repeat (first | exact (Kd.C_below HR0_3.out HB.out) | (with_reducible refine Kd.C_alloc ?_ _) | (with_reducible refine Kd.C_drewN ?_ _) | (with_reducible refine Kd.C_drew ?_))); (case side2 => exact HC0_3.out); (case side3 => repeat (first | exact (Kd.C_below HR1_0.out HB.out) | (with_reducible refine Kd.C_alloc ?_ _) | (with_reducible refine Kd.C_drewN ?_ _) | (with_reducible refine Kd.C_drew ?_))); (case side4 => exact HC1_0.out); (case side5 => repeat (first | exact (Kd.C_below HR1_0.out HB.out) | (with_reducible refine Kd.C_alloc ?_ _) | (with_reducible refine Kd.C_drewN ?_ _) | (with_reducible refine Kd.C_drew ?_))); (case side6 => exact HC1_0.out); rintro e w13 ⟨v703, rfl, ho0, hb⟩; refine ⟨_, rfl, ?_⟩; have n0_ := Aside0.mk (Kd.R_lower ho0 (below_size (by repeat (first | (with_reducible first | exact HB.out | apply below_alloc | apply pw_below_drewN | apply below_drew1 | refine below_set ?_ GE699.out | refine below_set ?_ GE700.out | refine below_set ?_ GE701.out) | exact HB.out)))); have n1_ := Aside0.mk (blk_below (g := gb699) (o := .cells #[.int .i64 a0_0, .string a0_1, .int .i64 a0_2, .slice A0_3 l0_3.length c0_3] 36 (0, 0)) (by (with_reducible repeat (first | refine blk_drewN ?_ _ | refine blk_drew ?_ | refine blk_alloc ?_ _)); exact BK699.out) hb); have n2_ := Aside0.mk (blk_below (g := gb700) (o := .cells #[.slice A1_0 l1_0.length c1_0, .slice A1_1 l1_1.length c1_1] 59 (0, 0)) (by (with_reducible repeat (first | refine blk_drewN ?_ _ | refine blk_drew ?_ | refine blk_alloc ?_ _)); exact BK700.out) hb); have n3_ := Aside0.mk (blk_below (g := gb701) (o := .cells #[.slice none 0 0, .int .i64 0, .int .i64 0] 54 (0, 0)) (by (with_reducible repeat (first | refine blk_drewN ?_ _ | refine blk_drew ?_ | refine blk_alloc ?_ _)); exact BK701.out) hb); have n4_ := Aside0.mk (below_step (by repeat (first | (with_reducible first | exact HB.out | apply below_alloc | apply pw_below_drewN | apply below_drew1 | refine below_set ?_ GE699.out | refine below_set ?_ GE700.out | refine below_set ?_ GE701.out) | exact HB.out)) hb); clear BK699; clear BK700; clear BK701; clear HB; have HO704 := n0_; have BK699 := n1_; have BK700 := n2_; have BK701 := n3_; have HB := n4_; clear n0_ n1_ n2_ n3_ n4_; (try clear hb); (try clear hb2); (try clear hk); (try clear hi); (try clear ho0); obtain ⟨Ao14, co14, eo14⟩ := Kd.R_slice HO704.out; subst eo14; have hcz15_0 : w13.cell? ⟨gb701, 0, none⟩ = some (.slice none 0 0) := (blk_cell BK701.out 0).trans rfl; have hcz15_1 : w13.cell? ⟨gb701, 1, none⟩ = some (.int .i64 0) := (blk_cell BK701.out 1).trans rfl; have hcz15_2 : w13.cell? ⟨gb701, 2, none⟩ = some (.int .i64 0) := (blk_cell BK701.out 2).trans rfl; have hfz15_0 := blk_frozen BK701.out 0; have hfz15_1 := blk_frozen BK701.out 1; have hfz15_2 := blk_frozen BK701.out 2))
  refine bodyPost_ret (results_ct rfl _ _ gb701 54 #[.slice Ao14 t702.length co14, .int .i64 t705, .int .i64 t706] (0, 0) _ rfl (by (with_reducible repeat (first | refine blk_drewN ?_ _ | refine blk_drew ?_ | refine blk_alloc ?_ _)); refine blk_put (cs := #[.slice Ao14 t702.length co14, .int .i64 t705, .int .i64 0]) ?_ 2 _ rfl; (with_reducible repeat (first | refine blk_drewN ?_ _ | refine blk_drew ?_ | refine blk_alloc ?_ _)); refine blk_put (cs := #[.slice Ao14 t702.length co14, .int .i64 0, .int .i64 0]) ?_ 1 _ rfl; (with_reducible repeat (first | refine blk_drewN ?_ _ | refine blk_drew ?_ | refine blk_alloc ?_ _)); refine blk_put (cs := #[.slice none 0 0, .int .i64 0, .int .i64 0]) ?_ 0 _ rfl; (with_reducible repeat (first | refine blk_drewN ?_ _ | refine blk_drew ?_ | refine blk_alloc ?_ _)); exact BK701.out) Tryd.underlying54 rfl (by kernel_rfl)) rfl ?_
  exact ⟨_, by first | rfl | (simp [errW_none, errW_some] <;> rfl) | (simp [*, errW_none, errW_some] <;> rfl), by (with_reducible repeat (first | apply Kd.R_alloc | apply Kd.R_drewN | apply Kd.R_drew)); exact Kd.R_mono (Kd.R_far (p := ⟨gb701, 2, none⟩) (Kd.R_far (p := ⟨gb701, 1, none⟩) (Kd.R_far (p := ⟨gb701, 0, none⟩) (Kd.R_types HO704.out BK701.out (by decide)) (fun _ hk => hk.2) (.slice Ao14 t702.length co14)) (fun _ hk => hk.2) (.int .i64 t705)) (fun _ hk => hk.2) (.int .i64 t706)) (fun _ hk => trivial), by repeat (first | (with_reducible first | exact HB.out | apply below_alloc | apply pw_below_drewN | apply below_drew1 | refine below_set ?_ GE699.out | refine below_set ?_ GE700.out | refine below_set ?_ GE701.out) | exact HB.out)⟩
 ·
  rw [if_neg c3] at H
  have c3b0 : ((l1_1.length : Int) == 0) = false := beq_eq_false_iff_ne.mpr c3
  have c3b1 : ((l1_1.length : Int) != 0) = true := bne_iff_ne.mpr c3
  have c3b2 : ¬ (l1_1 = []) := fun h_ => c3 (by rw [h_]; rfl)
  replace H := Option.bind_eq_some_iff.mp H
  obtain ⟨⟨t708, t711, t712, t713⟩, A160, H⟩ := H
  replace H : (some (t708, t711, t712, t713)) = some (r1, r2, r3, r4) := H
  have A16 := Aside0.mk A160
  clear A160
  simp only [Option.some.injEq, Prod.mk.injEq] at H
  obtain ⟨rfl, rfl, rfl, rfl⟩ := H
  go_enter Tryd.func50, Tryd.ntmps50
  go_wp2_with (first | ((with_reducible refine gate_dst (N := 2) rfl ?_); refine box_event ?hg (N := 2) ?hd (cs := #[.int .i64 a0_0, .string a0_1, .int .i64 a0_2, .slice A0_3 l0_3.length c0_3]) (t := 36) ?hr ?_; (case hd => rfl); (case hg => rfl); (case hr => first | (go_simp; done) | (go_simp; rfl)); intro gb699 hg w17 hbox hb; have n0_ := Aside0.mk (below_step (by repeat (first | (with_reducible first | exact HB.out | apply below_alloc | apply pw_below_drewN | apply below_drew1) | exact HB.out)) hb); have n1_ := Aside0.mk (hbox); have n2_ := Aside0.mk ((by rw [hg]; exact (below_size (by repeat (first | (with_reducible first | exact HB.out | apply below_alloc | apply pw_below_drewN | apply below_drew1) | exact HB.out))) : w.heap.size ≤ gb699)); have n3_ := Aside0.mk ((by rw [hg]; exact (below_size (by repeat (first | (with_reducible first | exact HB.out | apply below_alloc | apply pw_below_drewN | apply below_drew1) | exact HB.out))) : w.heap.size ≤ gb699)); clear HB; have HB := n0_; have BK699 := n1_; have GW699 := n2_; have GE699 := n3_; clear n0_ n1_ n2_ n3_; clear hb hbox hg) | ((with_reducible refine gate_dst (N := 3) rfl ?_); refine box_event ?hg (N := 3) ?hd (cs := #[.slice A1_0 l1_0.length c1_0, .slice A1_1 l1_1.length c1_1]) (t := 59) ?hr ?_; (case hd => rfl); (case hg => rfl); (case hr => first | (go_simp; done) | (go_simp; rfl)); intro gb700 hg w18 hbox hb; have n0_ := Aside0.mk (blk_below (g := gb699) (o := .cells #[.int .i64 a0_0, .string a0_1, .int .i64 a0_2, .slice A0_3 l0_3.length c0_3] 36 (0, 0)) (by (with_reducible repeat (first | refine blk_drewN ?_ _ | refine blk_drew ?_ | refine blk_alloc ?_ _)); exact BK699.out) hb); have n1_ := Aside0.mk (below_step (by repeat (first | (with_reducible first | exact HB.out | apply below_alloc | apply pw_below_drewN | apply below_drew1 | refine below_set ?_ GE699.out) | exact HB.out)) hb); have n2_ := Aside0.mk (hbox); have n3_ := Aside0.mk ((by rw [hg]; exact (below_size (by repeat (first | (with_reducible first | exact HB.out | apply below_alloc | apply pw_below_drewN | apply below_drew1 | refine below_set ?_ GE699.out) | exact HB.out))) : w.heap.size ≤ gb700)); have n4_ := Aside0.mk ((by rw [hg]; exact (below_size (by repeat (first | (with_reducible first | exact HB.out | apply below_alloc | apply pw_below_drewN | apply below_drew1 | refine below_set ?_ GE699.out) | exact HB.out))) : w.heap.size ≤ gb700)); have n5_ := Aside0.mk ((by rw [hg]; exact Nat.ne_of_lt (blk_lt (g := gb699) (o := .cells #[.int .i64 a0_0, .string a0_1, .int .i64 a0_2, .slice A0_3 l0_3.length c0_3] 36 (0, 0)) (by (with_reducible repeat (first | refine blk_drewN ?_ _ | refine blk_drew ?_ | refine blk_alloc ?_ _)); exact BK699.out)) : gb699 ≠ gb700)); have n6_ := Aside0.mk ((by rw [hg]; exact Nat.ne_of_gt (blk_lt (g := gb699) (o := .cells #[.int .i64 a0_0, .string a0_1, .int .i64 a0_2, .slice A0_3 l0_3.length c0_3] 36 (0, 0)) (by (with_reducible repeat (first | refine blk_drewN ?_ _ | refine blk_drew ?_ | refine blk_alloc ?_ _)); exact BK699.out)) : gb700 ≠ gb699)); clear BK699; clear HB; have BK699 := n0_; have HB := n1_; have BK700 := n2_; have GW700 := n3_; have GE700 := n4_; have NB699_700 := n5_; have NB700_699 := n6_; clear n0_ n1_ n2_ n3_ n4_ n5_ n6_; clear hb hbox hg) | ((with_reducible refine gate_dst (N := 4) rfl ?_); refine box_event ?hg (N := 4) ?hd (cs := #[.slice none 0 0, .int .i64 0, .int .i64 0]) (t := 54) ?hr ?_; (case hd => rfl); (case hg => rfl); (case hr => first | (go_simp; done) | (go_simp; rfl)); intro gb701 hg w19 hbox hb; have n0_ := Aside0.mk (blk_below (g := gb699) (o := .cells #[.int .i64 a0_0, .string a0_1, .int .i64 a0_2, .slice A0_3 l0_3.length c0_3] 36 (0, 0)) (by (with_reducible repeat (first | refine blk_drewN ?_ _ | refine blk_drew ?_ | refine blk_alloc ?_ _)); exact BK699.out) hb); have n1_ := Aside0.mk (blk_below (g := gb700) (o := .cells #[.slice A1_0 l1_0.length c1_0, .slice A1_1 l1_1.length c1_1] 59 (0, 0)) (by (with_reducible repeat (first | refine blk_drewN ?_ _ | refine blk_drew ?_ | refine blk_alloc ?_ _)); exact BK700.out) hb); have n2_ := Aside0.mk (below_step (by repeat (first | (with_reducible first | exact HB.out | apply below_alloc | apply pw_below_drewN | apply below_drew1 | refine below_set ?_ GE699.out | refine below_set ?_ GE700.out) | exact HB.out)) hb); have n3_ := Aside0.mk (hbox); have n4_ := Aside0.mk ((by rw [hg]; exact (below_size (by repeat (first | (with_reducible first | exact HB.out | apply below_alloc | apply pw_below_drewN | apply below_drew1 | refine below_set ?_ GE699.out | refine below_set ?_ GE700.out) | exact HB.out))) : w.heap.size ≤ gb701)); have n5_ := Aside0.mk ((by rw [hg]; exact (below_size (by repeat (first | (with_reducible first | exact HB.out | apply below_alloc | apply pw_below_drewN | apply below_drew1 | refine below_set ?_ GE699.out | refine below_set ?_ GE700.out) | exact HB.out))) : w.heap.size ≤ gb701)); have n6_ := Aside0.mk ((by rw [hg]; exact Nat.ne_of_lt (blk_lt (g := gb699) (o := .cells #[.int .i64 a0_0, .string a0_1, .int .i64 a0_2, .slice A0_3 l0_3.length c0_3] 36 (0, 0)) (by (with_reducible repeat (first | refine blk_drewN ?_ _ | refine blk_drew ?_ | refine blk_alloc ?_ _)); exact BK699.out)) : gb699 ≠ gb701)); have n7_ := Aside0.mk ((by rw [hg]; exact Nat.ne_of_gt (blk_lt (g := gb699) (o := .cells #[.int .i64 a0_0, .string a0_1, .int .i64 a0_2, .slice A0_3 l0_3.length c0_3] 36 (0, 0)) (by (with_reducible repeat (first | refine blk_drewN ?_ _ | refine blk_drew ?_ | refine blk_alloc ?_ _)); exact BK699.out)) : gb701 ≠ gb699)); have n8_ := Aside0.mk ((by rw [hg]; exact Nat.ne_of_lt (blk_lt (g := gb700) (o := .cells #[.slice A1_0 l1_0.length c1_0, .slice A1_1 l1_1.length c1_1] 59 (0, 0)) (by (with_reducible repeat (first | refine blk_drewN ?_ _ | refine blk_drew ?_ | refine blk_alloc ?_ _)); exact BK700.out)) : gb700 ≠ gb701)); have n9_ := Aside0.mk ((by rw [hg]; exact Nat.ne_of_gt (blk_lt (g := gb700) (o := .cells #[.slice A1_0 l1_0.length c1_0, .slice A1_1 l1_1.length c1_1] 59 (0, 0)) (by (with_reducible repeat (first | refine blk_drewN ?_ _ | refine blk_drew ?_ | refine blk_alloc ?_ _)); exact BK700.out)) : gb701 ≠ gb700)); clear BK699; clear BK700; clear HB; have BK699 := n0_; have BK700 := n1_; have HB := n2_; have BK701 := n3_; have GW701 := n4_; have GE701 := n5_; have NB699_701 := n6_; have NB701_699 := n7_; have NB700_701 := n8_; have NB701_700 := n9_; clear n0_ n1_ n2_ n3_ n4_ n5_ n6_ n7_ n8_ n9_; clear hb hbox hg; have hnb20 := NB700_699.out; have hnc20 := NB699_700.out; have hnb21 := NB700_701.out; have hnc21 := NB701_700.out; have hcz22_0 : w19.cell? ⟨gb700, 0, none⟩ = some (.slice A1_0 l1_0.length c1_0) := (blk_cell BK700.out 0).trans rfl; have hcz22_1 : w19.cell? ⟨gb700, 1, none⟩ = some (.slice A1_1 l1_1.length c1_1) := (blk_cell BK700.out 1).trans rfl; have hfz22_0 := blk_frozen BK700.out 0; have hfz22_1 := blk_frozen BK700.out 1; have hnb23 := NB699_701.out; have hnc23 := NB701_699.out; have hcz24_0 : w19.cell? ⟨gb699, 0, none⟩ = some (.int .i64 a0_0) := (blk_cell BK699.out 0).trans rfl; have hcz24_1 : w19.cell? ⟨gb699, 1, none⟩ = some (.string a0_1) := (blk_cell BK699.out 1).trans rfl; have hcz24_2 : w19.cell? ⟨gb699, 2, none⟩ = some (.int .i64 a0_2) := (blk_cell BK699.out 2).trans rfl; have hcz24_3 : w19.cell? ⟨gb699, 3, none⟩ = some (.slice A0_3 l0_3.length c0_3) := (blk_cell BK699.out 3).trans rfl; have hfz24_0 := blk_frozen BK699.out 0; have hfz24_1 := blk_frozen BK699.out 1; have hfz24_2 := blk_frozen BK699.out 2; have hfz24_3 := blk_frozen BK699.out 3) | ((with_reducible refine gate_callee (f := 48) rfl ?_); refine goesL_ (some 23) rfl rfl Tryd.func48 (by kernel_rfl) rfl #[.agg #[.int .i64 a0_0, .string a0_1, .int .i64 a0_2, .slice A0_3 l0_3.length c0_3], .slice A1_0 l1_0.length c1_0, .slice A1_1 l1_1.length c1_1] rfl (by (try simp only [List.map_toArray, List.map_cons, List.map_nil]); first | done | rfl | (simp only [List.length_drop, List.length_take]; rfl)) ?_; (with_reducible refine (vinculumref11_Between.calls k a0_0 a0_1 a0_2 _ _ l0_3 _ _ l1_0 _ _ l1_1 t708 t711 t712 t713 _ ?side1 ?side2 ?side3 ?side4 ?side5 ?side6 A16.out).mono ?_); (case side1 => repeat (first | exact (Kd.C_below HR0_3.out HB.out) | (with_reducible refine Kd.C_alloc ?_ _) | (with_reducible refine Kd.C_drewN ?_ _) | (with_reducible refine Kd.C_drew ?_))); (case side2 => exact HC0_3.out); (case side3 => repeat (first | exact (Kd.C_below HR1_0.out HB.out) | (with_reducible refine Kd.C_alloc ?_ _) | (with_reducible refine Kd.C_drewN ?_ _) | (with_reducible refine Kd.C_drew ?_))); (case side4 => exact HC1_0.out); (case side5 => repeat (first | exact (Kd.C_below HR1_1.out HB.out) | (with_reducible refine Kd.C_alloc ?_ _) | (with_reducible refine Kd.C_drewN ?_ _) | (with_reducible refine Kd.C_drew ?_))); (case side6 => exact HC1_1.out); rintro e w25 ⟨v709, rfl, ho0, hb⟩; refine ⟨_, rfl, ?_⟩; have n0_ := Aside0.mk (Kd.R_lower ho0 (below_size (by repeat (first | (with_reducible first | exact HB.out | apply below_alloc | apply pw_below_drewN | apply below_drew1 | refine below_set ?_ GE699.out | refine below_set ?_ GE700.out | refine below_set ?_ GE701.out) | exact HB.out)))); have n1_ := Aside0.mk (blk_below (g := gb699) (o := .cells #[.int .i64 a0_0, .string a0_1, .int .i64 a0_2, .slice A0_3 l0_3.length c0_3] 36 (0, 0)) (by (with_reducible repeat (first | refine blk_drewN ?_ _ | refine blk_drew ?_ | refine blk_alloc ?_ _)); exact BK699.out) hb); have n2_ := Aside0.mk (blk_below (g := gb700) (o := .cells #[.slice A1_0 l1_0.length c1_0, .slice A1_1 l1_1.length c1_1] 59 (0, 0)) (by (with_reducible repeat (first | refine blk_drewN ?_ _ | refine blk_drew ?_ | refine blk_alloc ?_ _)); exact BK700.out) hb); have n3_ := Aside0.mk (blk_below (g := gb701) (o := .cells #[.slice none 0 0, .int .i64 0, .int .i64 0] 54 (0, 0)) (by (with_reducible repeat (first | refine blk_drewN ?_ _ | refine blk_drew ?_ | refine blk_alloc ?_ _)); exact BK701.out) hb); have n4_ := Aside0.mk (below_step (by repeat (first | (with_reducible first | exact HB.out | apply below_alloc | apply pw_below_drewN | apply below_drew1 | refine below_set ?_ GE699.out | refine below_set ?_ GE700.out | refine below_set ?_ GE701.out) | exact HB.out)) hb); clear BK699; clear BK700; clear BK701; clear HB; have HO710 := n0_; have BK699 := n1_; have BK700 := n2_; have BK701 := n3_; have HB := n4_; clear n0_ n1_ n2_ n3_ n4_; (try clear hb); (try clear hb2); (try clear hk); (try clear hi); (try clear ho0); obtain ⟨Ao26, co26, eo26⟩ := Kd.R_slice HO710.out; subst eo26; have hcz27_0 : w25.cell? ⟨gb701, 0, none⟩ = some (.slice none 0 0) := (blk_cell BK701.out 0).trans rfl; have hcz27_1 : w25.cell? ⟨gb701, 1, none⟩ = some (.int .i64 0) := (blk_cell BK701.out 1).trans rfl; have hcz27_2 : w25.cell? ⟨gb701, 2, none⟩ = some (.int .i64 0) := (blk_cell BK701.out 2).trans rfl; have hfz27_0 := blk_frozen BK701.out 0; have hfz27_1 := blk_frozen BK701.out 1; have hfz27_2 := blk_frozen BK701.out 2))
  refine bodyPost_ret (results_ct rfl _ _ gb701 54 #[.slice Ao26 t708.length co26, .int .i64 t711, .int .i64 t712] (0, 0) _ rfl (by (with_reducible repeat (first | refine blk_drewN ?_ _ | refine blk_drew ?_ | refine blk_alloc ?_ _)); refine blk_put (cs := #[.slice Ao26 t708.length co26, .int .i64 t711, .int .i64 0]) ?_ 2 _ rfl; (with_reducible repeat (first | refine blk_drewN ?_ _ | refine blk_drew ?_ | refine blk_alloc ?_ _)); refine blk_put (cs := #[.slice Ao26 t708.length co26, .int .i64 0, .int .i64 0]) ?_ 1 _ rfl; (with_reducible repeat (first | refine blk_drewN ?_ _ | refine blk_drew ?_ | refine blk_alloc ?_ _)); refine blk_put (cs := #[.slice none 0 0, .int .i64 0, .int .i64 0]) ?_ 0 _ rfl; (with_reducible repeat (first | refine blk_drewN ?_ _ | refine blk_drew ?_ | refine blk_alloc ?_ _)); exact BK701.out) Tryd.underlying54 rfl (by kernel_rfl)) rfl ?_
  exact ⟨_, by first | rfl | (simp [errW_none, errW_some] <;> rfl) | (simp [*, errW_none, errW_some] <;> rfl), by (with_reducible repeat (first | apply Kd.R_alloc | apply Kd.R_drewN | apply Kd.R_drew)); exact Kd.R_mono (Kd.R_far (p := ⟨gb701, 2, none⟩) (Kd.R_far (p := ⟨gb701, 1, none⟩) (Kd.R_far (p := ⟨gb701, 0, none⟩) (Kd.R_types HO710.out BK701.out (by decide)) (fun _ hk => hk.2) (.slice Ao26 t708.length co26)) (fun _ hk => hk.2) (.int .i64 t711)) (fun _ hk => hk.2) (.int .i64 t712)) (fun _ hk => trivial), by repeat (first | (with_reducible first | exact HB.out | apply below_alloc | apply pw_below_drewN | apply below_drew1 | refine below_set ?_ GE699.out | refine below_set ?_ GE700.out | refine below_set ?_ GE701.out) | exact HB.out)⟩
end Go.Proofs.YtagkhoeidjlahaaDoor.G
namespace Go.Proofs.YtagkhoeidjlahaaDoor.G
open Go.RowKit Go.Proofs.YtagkhoeidjlahaaDoorW.PrintWords Go.Proofs.YtagkhoeidjlahaaDoorW.PrintLast Go.Proofs.YtagkhoeidjlahaaDoorW.PrintMore
attribute [local go_sem] max2_int min2_int max_two min_two max_three min_three max_four min_four
set_option linter.unusedVariables false
set_option linter.unusedSimpArgs false
def vinculumlaw11_SelectionBetween.f (k : Nat) (a0_0 : Int) (a0_1 : ByteArray) (a0_2 : Int) (l0_3 : List (S36)) (l1 : List Int) (l2 : List Int) : Option Bool :=
 (vinculumlaw11_awake.f k).bind fun t => if t = true then ((vinculumlaw11_few.f k a0_0 a0_1 a0_2 l0_3 l1 l2).bind fun t2 => if t2 = true then
  ((selection_Between.f k a0_0 a0_1 a0_2 l0_3 l1 l2).bind fun p => (vinculumref11_Between.f k a0_0 a0_1 a0_2 l0_3 l1 l2).bind fun q => (selection_Of.f k a0_0 a0_1 a0_2 l0_3 l1 l2).bind fun u => (vinculumref11_Of.f k a0_0 a0_1 a0_2 l0_3 l1 l2).bind fun v =>
   if p.2.2.2 = q.2.2.2 ∧ u.2.2.2 = v.2.2.2 then ((vinculumref11_Same.f k p.1 p.2.1 p.2.2.1 q.1 q.2.1 q.2.2.1).bind fun s => if s = true then ((vinculumref11_Same.f k u.1 u.2.1 u.2.2.1 v.1 v.2.1 v.2.2.1).bind fun s2 => some s2) else none) else none) else some true) else none
set_option maxHeartbeats 4000000 in

theorem vinculumlaw11_SelectionBetween.calls (k : Nat) (a0_0 : Int) (a0_1 : ByteArray) (a0_2 : Int) (A0_3 : Option Addr) (c0_3 : Nat) (l0_3 : List (S36)) (A1 : Option Addr) (c1 : Nat) (l1 : List Int) (A2 : Option Addr) (c2 : Nat) (l2 : List Int) (r : Bool) (w : World) (hr0_3 : Kd.C k36 w A0_3 l0_3.length l0_3) (hc0_3 : l0_3.length ≤ c0_3) (hr1 : Kd.C (Kd.int .i64) w A1 l1.length l1) (hc1 : l1.length ≤ c1) (hr2 : Kd.C (Kd.int .i64) w A2 l2.length l2) (hc2 : l2.length ≤ c2) (h : vinculumlaw11_SelectionBetween.f k a0_0 a0_1 a0_2 l0_3 l1 l2 = some r) :
  Calls Tryd.prog 13 #[.agg #[.int .i64 a0_0, .string a0_1, .int .i64 a0_2, .slice A0_3 l0_3.length c0_3], .slice A1 l1.length c1, .slice A2 l2.length c2] w fun e w' => e = .returned (.bool r) ∧ Below w.heap.size w w' := by
 have hu36 := Tryd.underlying36
 have hu54 := Tryd.underlying54
 replace h := Option.bind_eq_some_iff.mp h
 obtain ⟨t, hA, h⟩ := h
 by_cases ht : t = true
 case neg => rw [if_neg ht] at h; exact absurd h (by simp)
 subst ht
 rw [if_pos rfl] at h
 obtain ⟨t2, hF, e0⟩ := Option.bind_eq_some_iff.mp h
 clear h
 have HR0 := Aside0.mk hr0_3
 have HC0 := Aside0.mk hc0_3
 have HR1 := Aside0.mk hr1
 have HC1 := Aside0.mk hc1
 have HR2 := Aside0.mk hr2
 have HC2 := Aside0.mk hc2
 have HA := Aside0.mk hA
 have HF := Aside0.mk hF
 have H := Aside0.mk e0
 clear hr0_3 hc0_3 hr1 hc1 hr2 hc2 hA hF e0
 go_enter Tryd.func13, Tryd.ntmps13
 have HX0 := Aside0.mk (blk_new w (.cells #[.int .i64 a0_0, .string a0_1, .int .i64 a0_2, .slice A0_3 l0_3.length c0_3] 36))
 have HB0 := Aside0.mk (below_alloc (Below.refl w.heap.size w) (.cells #[.int .i64 a0_0, .string a0_1, .int .i64 a0_2, .slice A0_3 l0_3.length c0_3] 36))
 go_wp2_with fail
 refine (vinculumlaw11_awake.calls k true _ HA.out).mono ?_
 rintro e w1 ⟨rfl, hb⟩
 have HX1 := Aside0.mk (blk_below HX0.out hb)
 have HB1 := Aside0.mk (below_step HB0.out hb)
 clear hb HX0 HB0
 have q0 := (blk_cell HX1.out 0).trans rfl
 have q1 := (blk_cell HX1.out 1).trans rfl
 have q2 := (blk_cell HX1.out 2).trans rfl
 have q3 := (blk_cell HX1.out 3).trans rfl
 go_wp2_with fail
 refine (vinculumlaw11_few.calls k a0_0 a0_1 a0_2 A0_3 c0_3 l0_3 A1 c1 l1 A2 c2 l2 t2 _ (Kd.C_below HR0.out HB1.out) HC0.out (Kd.C_below HR1.out HB1.out) HC1.out (Kd.C_below HR2.out HB1.out) HC2.out HF.out).mono ?_
 rintro e w2 ⟨rfl, hb⟩
 have HX2 := Aside0.mk (blk_below HX1.out hb)
 have HB2 := Aside0.mk (below_step HB1.out hb)
 clear hb HX1 HB1 q0 q1 q2 q3 HF
 cases t2 with
 | false =>
  obtain rfl : true = r := by have := H.out; simpa using this
  go_wp2_with fail
  refine (vinculumlaw11_awake.calls k true _ HA.out).mono ?_
  rintro e w3 ⟨rfl, hb⟩
  have HB3 := Aside0.mk (below_step HB2.out hb)
  clear hb
  go_wp2
  go_ret
  exact ⟨rfl, HB3.out⟩
 | true =>
  have e1 := H.out
  rw [if_pos rfl] at e1
  clear H
  obtain ⟨⟨p1, p2, p3, p4⟩, hP, e2⟩ := Option.bind_eq_some_iff.mp e1
  clear e1
  obtain ⟨⟨u1, u2, u3, u4⟩, hU, e3⟩ := Option.bind_eq_some_iff.mp e2
  clear e2
  obtain ⟨⟨x1, x2, x3, x4⟩, hX, e4⟩ := Option.bind_eq_some_iff.mp e3
  clear e3
  obtain ⟨⟨y1, y2, y3, y4⟩, hY, e5⟩ := Option.bind_eq_some_iff.mp e4
  clear e4
  simp only at e5
  by_cases he : p4 = u4 ∧ x4 = y4
  case neg => rw [if_neg he] at e5; exact absurd e5 (by simp)
  rw [if_pos he] at e5
  obtain ⟨he1, he2⟩ := he
  obtain ⟨s1, hS, e6⟩ := Option.bind_eq_some_iff.mp e5
  clear e5
  by_cases hs : s1 = true
  case neg => rw [if_neg hs] at e6; exact absurd e6 (by simp)
  subst hs
  rw [if_pos rfl] at e6
  obtain ⟨s2, hS2, e7⟩ := Option.bind_eq_some_iff.mp e6
  clear e6
  obtain rfl : s2 = r := by simpa using e7
  clear e7
  subst he1 he2
  have HP := Aside0.mk hP
  have HU := Aside0.mk hU
  have HXx := Aside0.mk hX
  have HYy := Aside0.mk hY
  have HS := Aside0.mk hS
  have HS2 := Aside0.mk hS2
  clear hP hU hX hY hS hS2
  have q0 := (blk_cell HX2.out 0).trans rfl
  have q1 := (blk_cell HX2.out 1).trans rfl
  have q2 := (blk_cell HX2.out 2).trans rfl
  have q3 := (blk_cell HX2.out 3).trans rfl
  go_wp2_with fail
  refine (selection_Between.calls k a0_0 a0_1 a0_2 A0_3 c0_3 l0_3 A1 c1 l1 A2 c2 l2 p1 p2 p3 p4 _ (Kd.C_below HR0.out HB2.out) HC0.out (Kd.C_below HR1.out HB2.out) HC1.out (Kd.C_below HR2.out HB2.out) HC2.out HP.out).mono ?_
  rintro e w3 ⟨v3, rfl, hR, hb⟩
  obtain ⟨P1, dP, rfl, hl, hF⟩ := Kd.R_V (base' := 0) hR
  have LP := Aside0.mk hl
  have CP := Aside0.mk (Kd.C_alloc (Kd.F_now hF) (.cells #[.slice P1 p1.length dP, .int .i64 p2, .int .i64 p3] 54))
  have ZP := Aside0.mk (blk_new w3 (.cells #[.slice P1 p1.length dP, .int .i64 p2, .int .i64 p3] 54))
  have HX3 := Aside0.mk (blk_alloc (blk_below HX2.out hb) (.cells #[.slice P1 p1.length dP, .int .i64 p2, .int .i64 p3] 54))
  have HB3 := Aside0.mk (below_alloc (below_step HB2.out hb) (.cells #[.slice P1 p1.length dP, .int .i64 p2, .int .i64 p3] 54))
  clear hb hR hl hF HX2 HB2 q0 q1 q2 q3  
  have q0 := (blk_cell HX3.out 0).trans rfl
  have q1 := (blk_cell HX3.out 1).trans rfl
  have q2 := (blk_cell HX3.out 2).trans rfl
  have q3 := (blk_cell HX3.out 3).trans rfl
  go_wp2_with fail
  refine (vinculumref11_Between.calls k a0_0 a0_1 a0_2 A0_3 c0_3 l0_3 A1 c1 l1 A2 c2 l2 u1 u2 u3 p4 _ (Kd.C_below HR0.out HB3.out) HC0.out (Kd.C_below HR1.out HB3.out) HC1.out (Kd.C_below HR2.out HB3.out) HC2.out HU.out).mono ?_
  rintro e w4 ⟨v4, rfl, hR, hb⟩
  obtain ⟨U1, dU, rfl, hl, hF⟩ := Kd.R_V (base' := 0) hR
  have LU := Aside0.mk hl
  have CU := Aside0.mk (Kd.C_alloc (Kd.F_now hF) (.cells #[.slice U1 u1.length dU, .int .i64 u2, .int .i64 u3] 54))
  have NCP := Aside0.mk (Kd.C_alloc (Kd.C_below CP.out hb) (.cells #[.slice U1 u1.length dU, .int .i64 u2, .int .i64 u3] 54))
  have NZP := Aside0.mk (blk_alloc (blk_below ZP.out hb) (.cells #[.slice U1 u1.length dU, .int .i64 u2, .int .i64 u3] 54))
  have ZU := Aside0.mk (blk_new w4 (.cells #[.slice U1 u1.length dU, .int .i64 u2, .int .i64 u3] 54))
  have HX4 := Aside0.mk (blk_alloc (blk_below HX3.out hb) (.cells #[.slice U1 u1.length dU, .int .i64 u2, .int .i64 u3] 54))
  have HB4 := Aside0.mk (below_alloc (below_step HB3.out hb) (.cells #[.slice U1 u1.length dU, .int .i64 u2, .int .i64 u3] 54))
  clear hb hR hl hF HX3 HB3 q0 q1 q2 q3 CP ZP
  have CP := NCP
  clear NCP
  have ZP := NZP
  clear NZP
  have q0 := (blk_cell HX4.out 0).trans rfl
  have q1 := (blk_cell HX4.out 1).trans rfl
  have q2 := (blk_cell HX4.out 2).trans rfl
  have q3 := (blk_cell HX4.out 3).trans rfl
  go_wp2_with fail
  refine (selection_Of.calls k a0_0 a0_1 a0_2 A0_3 c0_3 l0_3 A1 c1 l1 A2 c2 l2 x1 x2 x3 x4 _ (Kd.C_below HR0.out HB4.out) HC0.out (Kd.C_below HR1.out HB4.out) HC1.out (Kd.C_below HR2.out HB4.out) HC2.out HXx.out).mono ?_
  rintro e w5 ⟨v5, rfl, hR, hb⟩
  obtain ⟨X1, dX, rfl, hl, hF⟩ := Kd.R_V (base' := 0) hR
  have LX := Aside0.mk hl
  have CX := Aside0.mk (Kd.C_alloc (Kd.F_now hF) (.cells #[.slice X1 x1.length dX, .int .i64 x2, .int .i64 x3] 54))
  have NCP := Aside0.mk (Kd.C_alloc (Kd.C_below CP.out hb) (.cells #[.slice X1 x1.length dX, .int .i64 x2, .int .i64 x3] 54))
  have NCU := Aside0.mk (Kd.C_alloc (Kd.C_below CU.out hb) (.cells #[.slice X1 x1.length dX, .int .i64 x2, .int .i64 x3] 54))
  have NZP := Aside0.mk (blk_alloc (blk_below ZP.out hb) (.cells #[.slice X1 x1.length dX, .int .i64 x2, .int .i64 x3] 54))
  have NZU := Aside0.mk (blk_alloc (blk_below ZU.out hb) (.cells #[.slice X1 x1.length dX, .int .i64 x2, .int .i64 x3] 54))
  have ZX := Aside0.mk (blk_new w5 (.cells #[.slice X1 x1.length dX, .int .i64 x2, .int .i64 x3] 54))
  have HX5 := Aside0.mk (blk_alloc (blk_below HX4.out hb) (.cells #[.slice X1 x1.length dX, .int .i64 x2, .int .i64 x3] 54))
  have HB5 := Aside0.mk (below_alloc (below_step HB4.out hb) (.cells #[.slice X1 x1.length dX, .int .i64 x2, .int .i64 x3] 54))
  clear hb hR hl hF HX4 HB4 q0 q1 q2 q3 CP CU ZP ZU
  have CP := NCP
  clear NCP
  have CU := NCU
  clear NCU
  have ZP := NZP
  clear NZP
  have ZU := NZU
  clear NZU
  have q0 := (blk_cell HX5.out 0).trans rfl
  have q1 := (blk_cell HX5.out 1).trans rfl
  have q2 := (blk_cell HX5.out 2).trans rfl
  have q3 := (blk_cell HX5.out 3).trans rfl
  go_wp2_with fail
  refine (vinculumref11_Of.calls k a0_0 a0_1 a0_2 A0_3 c0_3 l0_3 A1 c1 l1 A2 c2 l2 y1 y2 y3 x4 _ (Kd.C_below HR0.out HB5.out) HC0.out (Kd.C_below HR1.out HB5.out) HC1.out (Kd.C_below HR2.out HB5.out) HC2.out HYy.out).mono ?_
  rintro e w6 ⟨v6, rfl, hR, hb⟩
  obtain ⟨Y1, dY, rfl, hl, hF⟩ := Kd.R_V (base' := 0) hR
  have LY := Aside0.mk hl
  have CY := Aside0.mk (Kd.C_alloc (Kd.F_now hF) (.cells #[.slice Y1 y1.length dY, .int .i64 y2, .int .i64 y3] 54))
  have NCP := Aside0.mk (Kd.C_alloc (Kd.C_below CP.out hb) (.cells #[.slice Y1 y1.length dY, .int .i64 y2, .int .i64 y3] 54))
  have NCU := Aside0.mk (Kd.C_alloc (Kd.C_below CU.out hb) (.cells #[.slice Y1 y1.length dY, .int .i64 y2, .int .i64 y3] 54))
  have NCX := Aside0.mk (Kd.C_alloc (Kd.C_below CX.out hb) (.cells #[.slice Y1 y1.length dY, .int .i64 y2, .int .i64 y3] 54))
  have NZP := Aside0.mk (blk_alloc (blk_below ZP.out hb) (.cells #[.slice Y1 y1.length dY, .int .i64 y2, .int .i64 y3] 54))
  have NZU := Aside0.mk (blk_alloc (blk_below ZU.out hb) (.cells #[.slice Y1 y1.length dY, .int .i64 y2, .int .i64 y3] 54))
  have NZX := Aside0.mk (blk_alloc (blk_below ZX.out hb) (.cells #[.slice Y1 y1.length dY, .int .i64 y2, .int .i64 y3] 54))
  have ZY := Aside0.mk (blk_new w6 (.cells #[.slice Y1 y1.length dY, .int .i64 y2, .int .i64 y3] 54))
  have HX6 := Aside0.mk (blk_alloc (blk_below HX5.out hb) (.cells #[.slice Y1 y1.length dY, .int .i64 y2, .int .i64 y3] 54))
  have HB6 := Aside0.mk (below_alloc (below_step HB5.out hb) (.cells #[.slice Y1 y1.length dY, .int .i64 y2, .int .i64 y3] 54))
  clear hb hR hl hF HX5 HB5 q0 q1 q2 q3 CP CU CX ZP ZU ZX
  have CP := NCP
  clear NCP
  have CU := NCU
  clear NCU
  have CX := NCX
  clear NCX
  have ZP := NZP
  clear NZP
  have ZU := NZU
  clear NZU
  have ZX := NZX
  clear NZX
  have z0 := (blk_cell ZP.out 0).trans rfl
  have z1 := (blk_cell ZP.out 1).trans rfl
  have z2 := (blk_cell ZP.out 2).trans rfl
  have z3 := (blk_cell ZU.out 0).trans rfl
  have z4 := (blk_cell ZU.out 1).trans rfl
  have z5 := (blk_cell ZU.out 2).trans rfl
  have z6 := (blk_cell ZX.out 0).trans rfl
  have z7 := (blk_cell ZX.out 1).trans rfl
  have z8 := (blk_cell ZX.out 2).trans rfl
  have z9 := (blk_cell ZY.out 0).trans rfl
  have z10 := (blk_cell ZY.out 1).trans rfl
  have z11 := (blk_cell ZY.out 2).trans rfl
  go_wp2_with fail
  refine (vinculumref11_Same.calls k P1 dP p1 p2 p3 U1 dU u1 u2 u3 true _ CP.out LP.out CU.out LU.out HS.out).mono ?_
  rintro e w7 ⟨rfl, hb⟩
  have CX7 := Aside0.mk (Kd.C_below CX.out hb)
  have CY7 := Aside0.mk (Kd.C_below CY.out hb)
  have ZX7 := Aside0.mk (blk_below ZX.out hb)
  have ZY7 := Aside0.mk (blk_below ZY.out hb)
  have HB7 := Aside0.mk (below_step HB6.out hb)
  clear hb CX CY ZX ZY ZP ZU HB6 HX6 z0 z1 z2 z3 z4 z5 z6 z7 z8 z9 z10 z11
  have z0 := (blk_cell ZX7.out 0).trans rfl
  have z1 := (blk_cell ZX7.out 1).trans rfl
  have z2 := (blk_cell ZX7.out 2).trans rfl
  have z3 := (blk_cell ZY7.out 0).trans rfl
  have z4 := (blk_cell ZY7.out 1).trans rfl
  have z5 := (blk_cell ZY7.out 2).trans rfl
  go_wp2_with fail
  refine (vinculumref11_Same.calls k X1 dX x1 x2 x3 Y1 dY y1 y2 y3 s2 _ CX7.out LX.out CY7.out LY.out HS2.out).mono ?_
  rintro e w8 ⟨rfl, hb⟩
  have HB8 := Aside0.mk (below_step HB7.out hb)
  clear hb
  go_wp2
  go_ret
  exact ⟨rfl, HB8.out⟩
end Go.Proofs.YtagkhoeidjlahaaDoor.G
namespace Go.Proofs.YtagkhoeidjlahaaDoor.G.Pure
open Go.Proofs.YtagkhoeidjlahaaDoorW.PrintWords Go.RowKit
set_option linter.unusedVariables false
set_option linter.unusedSimpArgs false
theorem pOf_ev (x : S36) (hx : OkNode x) (hc : cnt x ≤ 100000) (a b : List Int) (ha : a.length ≤ 1000000) (hb : b.length ≤ 1000000) : Ev (fun k => selection_Of.f k x.f0 x.f1 x.f2 x.f3 a b) (if b.length = 0 then betB x a a else betB x a b) := by
 unfold selection_Of.f
 refine ev_if (fun h => ?_) fun h => ?_
 ·
  rw [if_pos (by omega)]
  exact ev_bind (pBet_ev x hx hc a a ha ha) (Ev.now _)
 ·
  rw [if_neg (by omega)]
  exact ev_bind (pBet_ev x hx hc a b ha hb) (Ev.now _)
theorem rOf_ev (x : S36) (hx : OkNode x) (hc : cnt x ≤ 100000) (a b : List Int) (ha : a.length ≤ 1000000) (hb : b.length ≤ 1000000) : Ev (fun k => vinculumref11_Of.f k x.f0 x.f1 x.f2 x.f3 a b) (if b.length = 0 then betB x a a else betB x a b) := by
 unfold vinculumref11_Of.f
 refine ev_if (fun h => ?_) fun h => ?_
 ·
  rw [if_pos (by omega)]
  exact ev_bind (rBet_ev x hx hc a a ha ha) (Ev.now _)
 ·
  rw [if_neg (by omega)]
  exact ev_bind (rBet_ev x hx hc a b ha hb) (Ev.now _)
theorem SelectionBetween (x : S36) (a b : List Int) (hx : OkNode x) (ha : OkL (OkI .i64) a) (hb : OkL (OkI .i64) b) : ∃ k, vinculumlaw11_SelectionBetween.f k x.f0 x.f1 x.f2 x.f3 a b = some true := by
 apply Ev.rounds
 unfold vinculumlaw11_SelectionBetween.f
 refine ev_bind awake11_ev ?_
 refine ev_if (fun _ => ?_) fun h => absurd rfl h
 refine ev_bind (few11_ev x hx a b) ?_
 refine ev_if (fun h => ?_) fun _ => Ev.now _
 rw [decide_eq_true_eq] at h
 obtain ⟨h1, h2, h3⟩ := h
 refine ev_bind (pBet_ev x hx (by omega) a b (by omega) (by omega)) ?_
 refine ev_bind (rBet_ev x hx (by omega) a b (by omega) (by omega)) ?_
 refine ev_bind (pOf_ev x hx (by omega) a b (by omega) (by omega)) ?_
 refine ev_bind (rOf_ev x hx (by omega) a b (by omega) (by omega)) ?_
 refine ev_if (fun _ => ?_) fun h => absurd ⟨rfl, rfl⟩ h
 refine ev_bind (same11_self _ (bet_short x a b (by omega))) ?_
 refine ev_if (fun _ => ?_) fun h => absurd rfl h
 have hl : (if b.length = 0 then betB x a a else betB x a b).1.length ≤ M := by
  split
  ·
   exact bet_short x a a (by omega)
  ·
   exact bet_short x a b (by omega)
 exact ev_bind (same11_self _ hl) (Ev.now _)
end Go.Proofs.YtagkhoeidjlahaaDoor.G.Pure
