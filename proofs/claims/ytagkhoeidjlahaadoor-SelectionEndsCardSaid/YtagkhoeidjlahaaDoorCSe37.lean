-- Written by pack2.py: this session's texts and the printer's, pruned.
import Derived.Test.YtagkhoeidjlahaaDoorCSe2
import Derived.Test.YtagkhoeidjlahaaDoorCSe28
import Derived.Test.YtagkhoeidjlahaaDoorCSe32
import Derived.Test.YtagkhoeidjlahaaDoorCSe33
import Derived.Test.YtagkhoeidjlahaaDoorCSe27
import Derived.Test.YtagkhoeidjlahaaDoorCSe17
import Derived.Deep.CutRange
import Derived.Test.YtagkhoeidjlahaaDoorCSe36
namespace Go.Proofs.YtagkhoeidjlahaaDoor.G
open Go.RowKit Go.Proofs.YtagkhoeidjlahaaDoorW.PrintWords Go.Proofs.YtagkhoeidjlahaaDoorW.PrintLast Go.Proofs.YtagkhoeidjlahaaDoorW.PrintMore
attribute [local go_sem] max2_int min2_int max_two min_two max_three min_three max_four min_four
set_option linter.unusedVariables false
set_option linter.unusedSimpArgs false
def vinculumref11_Same.f (k : Nat) (l0_0 : List Int) (a0_1 : Int) (a0_2 : Int) (l1_0 : List Int) (a1_1 : Int) (a1_2 : Int) : Option (Bool) := (vinculumref10_Same.f k l0_0 l1_0).bind fun t716 => (if t716 = true then (if a0_1 = a1_1 then (some (a0_2 == a1_2)) else (some false)) else (some false))
set_option maxHeartbeats 8000000 in
set_option maxRecDepth 100000 in
theorem vinculumref11_Same.calls (k : Nat) (A0_0 : Option Addr) (c0_0 : Nat) (l0_0 : List Int) (a0_1 : Int) (a0_2 : Int) (A1_0 : Option Addr) (c1_0 : Nat) (l1_0 : List Int) (a1_1 : Int) (a1_2 : Int) (r : Bool) (w : World) (hr0_0 : Kd.C (Kd.int .i64) w A0_0 l0_0.length l0_0) (hc0_0 : l0_0.length ≤ c0_0) (hr1_0 : Kd.C (Kd.int .i64) w A1_0 l1_0.length l1_0) (hc1_0 : l1_0.length ≤ c1_0) (h : vinculumref11_Same.f k l0_0 a0_1 a0_2 l1_0 a1_1 a1_2 = some r) :
  Calls Tryd.prog 51 #[.agg #[.slice A0_0 l0_0.length c0_0, .int .i64 a0_1, .int .i64 a0_2], .agg #[.slice A1_0 l1_0.length c1_0, .int .i64 a1_1, .int .i64 a1_2]] w fun e w' => e = .returned (.bool r) ∧ Below w.heap.size w w' := by
 have hu54 := Tryd.underlying54
 have HR0_0 := Aside0.mk hr0_0
 have HC0_0 := Aside0.mk hc0_0
 clear hr0_0 hc0_0
 have HR1_0 := Aside0.mk hr1_0
 have HC1_0 := Aside0.mk hc1_0
 clear hr1_0 hc1_0
 have HB := Aside0.mk (Below.refl w.heap.size w)
 have H : ((vinculumref10_Same.f k l0_0 l1_0).bind fun t716 => (if t716 = true then (if a0_1 = a1_1 then (some (a0_2 == a1_2)) else (some false)) else (some false))) = some r := h
 clear h
 replace H := Option.bind_eq_some_iff.mp H
 obtain ⟨t716, A30, H⟩ := H
 replace H : (if t716 = true then (if a0_1 = a1_1 then (some (a0_2 == a1_2)) else (some false)) else (some false)) = some r := H
 have A3 := Aside0.mk A30
 clear A30
 by_cases c4 : t716 = true
 ·
  subst c4
  have H1 : (if a0_1 = a1_1 then (some (a0_2 == a1_2)) else (some false)) = some r := by rw [if_pos rfl] at H; exact H
  clear H
  have H := H1
  clear H1
  by_cases c5 : a0_1 = a1_1
  ·
   rw [if_pos c5] at H
   have c5b0 : (a0_1 == a1_1) = true := beq_iff_eq.mpr c5
   have c5b1 : (a0_1 != a1_1) = false := bne_eq_false_iff_eq.mpr c5
   clear c5
   obtain rfl := Option.some.inj H
   go_enter Tryd.func51, Tryd.ntmps51
   go_wp2_with (first | ((with_reducible refine gate_dst (N := 2) rfl ?_); refine box_event ?hg (N := 2) ?hd (cs := #[.slice A0_0 l0_0.length c0_0, .int .i64 a0_1, .int .i64 a0_2]) (t := 54) ?hr ?_; (case hd => rfl); (case hg => rfl); (case hr => first | (go_simp; done) | (go_simp; rfl)); intro gb714 hg w6 hbox hb; have n0_ := Aside0.mk (below_step (by repeat (first | (with_reducible first | exact HB.out | apply below_alloc | apply pw_below_drewN | apply below_drew1) | exact HB.out)) hb); have n1_ := Aside0.mk (hbox); have n2_ := Aside0.mk ((by rw [hg]; exact (below_size (by repeat (first | (with_reducible first | exact HB.out | apply below_alloc | apply pw_below_drewN | apply below_drew1) | exact HB.out))) : w.heap.size ≤ gb714)); have n3_ := Aside0.mk ((by rw [hg]; exact (below_size (by repeat (first | (with_reducible first | exact HB.out | apply below_alloc | apply pw_below_drewN | apply below_drew1) | exact HB.out))) : w.heap.size ≤ gb714)); clear HB; have HB := n0_; have BK714 := n1_; have GW714 := n2_; have GE714 := n3_; clear n0_ n1_ n2_ n3_; clear hb hbox hg) | ((with_reducible refine gate_dst (N := 3) rfl ?_); refine box_event ?hg (N := 3) ?hd (cs := #[.slice A1_0 l1_0.length c1_0, .int .i64 a1_1, .int .i64 a1_2]) (t := 54) ?hr ?_; (case hd => rfl); (case hg => rfl); (case hr => first | (go_simp; done) | (go_simp; rfl)); intro gb715 hg w7 hbox hb; have n0_ := Aside0.mk (blk_below (g := gb714) (o := .cells #[.slice A0_0 l0_0.length c0_0, .int .i64 a0_1, .int .i64 a0_2] 54 (0, 0)) (by (with_reducible repeat (first | refine blk_drewN ?_ _ | refine blk_drew ?_ | refine blk_alloc ?_ _)); exact BK714.out) hb); have n1_ := Aside0.mk (below_step (by repeat (first | (with_reducible first | exact HB.out | apply below_alloc | apply pw_below_drewN | apply below_drew1 | refine below_set ?_ GE714.out) | exact HB.out)) hb); have n2_ := Aside0.mk (hbox); have n3_ := Aside0.mk ((by rw [hg]; exact (below_size (by repeat (first | (with_reducible first | exact HB.out | apply below_alloc | apply pw_below_drewN | apply below_drew1 | refine below_set ?_ GE714.out) | exact HB.out))) : w.heap.size ≤ gb715)); have n4_ := Aside0.mk ((by rw [hg]; exact (below_size (by repeat (first | (with_reducible first | exact HB.out | apply below_alloc | apply pw_below_drewN | apply below_drew1 | refine below_set ?_ GE714.out) | exact HB.out))) : w.heap.size ≤ gb715)); have n5_ := Aside0.mk ((by rw [hg]; exact Nat.ne_of_lt (blk_lt (g := gb714) (o := .cells #[.slice A0_0 l0_0.length c0_0, .int .i64 a0_1, .int .i64 a0_2] 54 (0, 0)) (by (with_reducible repeat (first | refine blk_drewN ?_ _ | refine blk_drew ?_ | refine blk_alloc ?_ _)); exact BK714.out)) : gb714 ≠ gb715)); have n6_ := Aside0.mk ((by rw [hg]; exact Nat.ne_of_gt (blk_lt (g := gb714) (o := .cells #[.slice A0_0 l0_0.length c0_0, .int .i64 a0_1, .int .i64 a0_2] 54 (0, 0)) (by (with_reducible repeat (first | refine blk_drewN ?_ _ | refine blk_drew ?_ | refine blk_alloc ?_ _)); exact BK714.out)) : gb715 ≠ gb714)); clear BK714; clear HB; have BK714 := n0_; have HB := n1_; have BK715 := n2_; have GW715 := n3_; have GE715 := n4_; have NB714_715 := n5_; have NB715_714 := n6_; clear n0_ n1_ n2_ n3_ n4_ n5_ n6_; clear hb hbox hg; have hnb8 := NB714_715.out; have hnc8 := NB715_714.out; have hcz9_0 : w7.cell? ⟨gb714, 0, none⟩ = some (.slice A0_0 l0_0.length c0_0) := (blk_cell BK714.out 0).trans rfl; have hcz9_1 : w7.cell? ⟨gb714, 1, none⟩ = some (.int .i64 a0_1) := (blk_cell BK714.out 1).trans rfl; have hcz9_2 : w7.cell? ⟨gb714, 2, none⟩ = some (.int .i64 a0_2) := (blk_cell BK714.out 2).trans rfl; have hfz9_0 := blk_frozen BK714.out 0; have hfz9_1 := blk_frozen BK714.out 1; have hfz9_2 := blk_frozen BK714.out 2; have hcz10_0 : w7.cell? ⟨gb715, 0, none⟩ = some (.slice A1_0 l1_0.length c1_0) := (blk_cell BK715.out 0).trans rfl; have hcz10_1 : w7.cell? ⟨gb715, 1, none⟩ = some (.int .i64 a1_1) := (blk_cell BK715.out 1).trans rfl; have hcz10_2 : w7.cell? ⟨gb715, 2, none⟩ = some (.int .i64 a1_2) := (blk_cell BK715.out 2).trans rfl; have hfz10_0 := blk_frozen BK715.out 0; have hfz10_1 := blk_frozen BK715.out 1; have hfz10_2 := blk_frozen BK715.out 2) | ((with_reducible refine gate_callee (f := 31) rfl ?_); refine goesL_ (some 9) rfl rfl Tryd.func31 (by kernel_rfl) rfl #[.slice A0_0 l0_0.length c0_0, .slice A1_0 l1_0.length c1_0] rfl (by (try simp only [List.map_toArray, List.map_cons, List.map_nil]); first | done | rfl | (simp only [List.length_drop, List.length_take]; rfl)) ?_; (with_reducible refine (vinculumref10_Same.calls k _ _ l0_0 _ _ l1_0 true _ ?side1 ?side2 ?side3 ?side4 A3.out).mono ?_); (case side1 => repeat (first | exact (Kd.C_below HR0_0.out HB.out) | (with_reducible refine Kd.C_alloc ?_ _) | (with_reducible refine Kd.C_drewN ?_ _) | (with_reducible refine Kd.C_drew ?_))); (case side2 => exact HC0_0.out); (case side3 => repeat (first | exact (Kd.C_below HR1_0.out HB.out) | (with_reducible refine Kd.C_alloc ?_ _) | (with_reducible refine Kd.C_drewN ?_ _) | (with_reducible refine Kd.C_drew ?_))); (case side4 => exact HC1_0.out); rintro e w' ⟨rfl, ⟨nd, rfl⟩⟩; refine ⟨_, rfl, ?_⟩))
   go_ret
   exact ⟨by first | rfl | (simp [errW_none, errW_some] <;> rfl) | (simp [*, errW_none, errW_some] <;> rfl), by repeat (first | (with_reducible first | exact HB.out | apply below_alloc | apply pw_below_drewN | apply below_drew1 | refine below_set ?_ GE714.out | refine below_set ?_ GE715.out) | exact HB.out)⟩
  ·
   rw [if_neg c5] at H
   have c5b0 : (a0_1 == a1_1) = false := beq_eq_false_iff_ne.mpr c5
   have c5b1 : (a0_1 != a1_1) = true := bne_iff_ne.mpr c5
   obtain rfl := Option.some.inj H
   go_enter Tryd.func51, Tryd.ntmps51
   go_wp2_with (first | ((with_reducible refine gate_dst (N := 2) rfl ?_); refine box_event ?hg (N := 2) ?hd (cs := #[.slice A0_0 l0_0.length c0_0, .int .i64 a0_1, .int .i64 a0_2]) (t := 54) ?hr ?_; (case hd => rfl); (case hg => rfl); (case hr => first | (go_simp; done) | (go_simp; rfl)); intro gb714 hg w11 hbox hb; have n0_ := Aside0.mk (below_step (by repeat (first | (with_reducible first | exact HB.out | apply below_alloc | apply pw_below_drewN | apply below_drew1) | exact HB.out)) hb); have n1_ := Aside0.mk (hbox); have n2_ := Aside0.mk ((by rw [hg]; exact (below_size (by repeat (first | (with_reducible first | exact HB.out | apply below_alloc | apply pw_below_drewN | apply below_drew1) | exact HB.out))) : w.heap.size ≤ gb714)); have n3_ := Aside0.mk ((by rw [hg]; exact (below_size (by repeat (first | (with_reducible first | exact HB.out | apply below_alloc | apply pw_below_drewN | apply below_drew1) | exact HB.out))) : w.heap.size ≤ gb714)); clear HB; have HB := n0_; have BK714 := n1_; have GW714 := n2_; have GE714 := n3_; clear n0_ n1_ n2_ n3_; clear hb hbox hg) | ((with_reducible refine gate_dst (N := 3) rfl ?_); refine box_event ?hg (N := 3) ?hd (cs := #[.slice A1_0 l1_0.length c1_0, .int .i64 a1_1, .int .i64 a1_2]) (t := 54) ?hr ?_; (case hd => rfl); (case hg => rfl); (case hr => first | (go_simp; done) | (go_simp; rfl)); intro gb715 hg w12 hbox hb; have n0_ := Aside0.mk (blk_below (g := gb714) (o := .cells #[.slice A0_0 l0_0.length c0_0, .int .i64 a0_1, .int .i64 a0_2] 54 (0, 0)) (by (with_reducible repeat (first | refine blk_drewN ?_ _ | refine blk_drew ?_ | refine blk_alloc ?_ _)); exact BK714.out) hb); have n1_ := Aside0.mk (below_step (by repeat (first | (with_reducible first | exact HB.out | apply below_alloc | apply pw_below_drewN | apply below_drew1 | refine below_set ?_ GE714.out) | exact HB.out)) hb); have n2_ := Aside0.mk (hbox); have n3_ := Aside0.mk ((by rw [hg]; exact (below_size (by repeat (first | (with_reducible first | exact HB.out | apply below_alloc | apply pw_below_drewN | apply below_drew1 | refine below_set ?_ GE714.out) | exact HB.out))) : w.heap.size ≤ gb715)); have n4_ := Aside0.mk ((by rw [hg]; exact (below_size (by repeat (first | (with_reducible first | exact HB.out | apply below_alloc | apply pw_below_drewN | apply below_drew1 | refine below_set ?_ GE714.out) | exact HB.out))) : w.heap.size ≤ gb715)); have n5_ := Aside0.mk ((by rw [hg]; exact Nat.ne_of_lt (blk_lt (g := gb714) (o := .cells #[.slice A0_0 l0_0.length c0_0, .int .i64 a0_1, .int .i64 a0_2] 54 (0, 0)) (by (with_reducible repeat (first | refine blk_drewN ?_ _ | refine blk_drew ?_ | refine blk_alloc ?_ _)); exact BK714.out)) : gb714 ≠ gb715)); have n6_ := Aside0.mk ((by rw [hg]; exact Nat.ne_of_gt (blk_lt (g := gb714) (o := .cells #[.slice A0_0 l0_0.length c0_0, .int .i64 a0_1, .int .i64 a0_2] 54 (0, 0)) (by (with_reducible repeat (first | refine blk_drewN ?_ _ | refine blk_drew ?_ | refine blk_alloc ?_ _)); exact BK714.out)) : gb715 ≠ gb714)); clear BK714; clear HB; have BK714 := n0_; have HB := n1_; have BK715 := n2_; have GW715 := n3_; have GE715 := n4_; have NB714_715 := n5_; have NB715_714 := n6_; clear n0_ n1_ n2_ n3_ n4_ n5_ n6_; clear hb hbox hg; have hnb13 := NB714_715.out; have hnc13 := NB715_714.out; have hcz14_0 : w12.cell? ⟨gb714, 0, none⟩ = some (.slice A0_0 l0_0.length c0_0) := (blk_cell BK714.out 0).trans rfl; have hcz14_1 : w12.cell? ⟨gb714, 1, none⟩ = some (.int .i64 a0_1) := (blk_cell BK714.out 1).trans rfl; have hcz14_2 : w12.cell? ⟨gb714, 2, none⟩ = some (.int .i64 a0_2) := (blk_cell BK714.out 2).trans rfl; have hfz14_0 := blk_frozen BK714.out 0; have hfz14_1 := blk_frozen BK714.out 1; have hfz14_2 := blk_frozen BK714.out 2; have hcz15_0 : w12.cell? ⟨gb715, 0, none⟩ = some (.slice A1_0 l1_0.length c1_0) := (blk_cell BK715.out 0).trans rfl; have hcz15_1 : w12.cell? ⟨gb715, 1, none⟩ = some (.int .i64 a1_1) := (blk_cell BK715.out 1).trans rfl; have hcz15_2 : w12.cell? ⟨gb715, 2, none⟩ = some (.int .i64 a1_2) := (blk_cell BK715.out 2).trans rfl; have hfz15_0 := blk_frozen BK715.out 0; have hfz15_1 := blk_frozen BK715.out 1; have hfz15_2 := blk_frozen BK715.out 2) | ((with_reducible refine gate_callee (f := 31) rfl ?_); refine goesL_ (some 9) rfl rfl Tryd.func31 (by kernel_rfl) rfl #[.slice A0_0 l0_0.length c0_0, .slice A1_0 l1_0.length c1_0] rfl (by (try simp only [List.map_toArray, List.map_cons, List.map_nil]); first | done | rfl | (simp only [List.length_drop, List.length_take]; rfl)) ?_; (with_reducible refine (vinculumref10_Same.calls k _ _ l0_0 _ _ l1_0 true _ ?side1 ?side2 ?side3 ?side4 A3.out).mono ?_); (case side1 => repeat (first | exact (Kd.C_below HR0_0.out HB.out) | (with_reducible refine Kd.C_alloc ?_ _) | (with_reducible refine Kd.C_drewN ?_ _) | (with_reducible refine Kd.C_drew ?_))); (case side2 => exact HC0_0.out); (case side3 => repeat (first | exact (Kd.C_below HR1_0.out HB.out) | (with_reducible refine Kd.C_alloc ?_ _) | (with_reducible refine Kd.C_drewN ?_ _) | (with_reducible refine Kd.C_drew ?_))); (case side4 => exact HC1_0.out); rintro e w' ⟨rfl, ⟨nd, rfl⟩⟩; refine ⟨_, rfl, ?_⟩))
   go_ret
   exact ⟨by first | rfl | (simp [errW_none, errW_some] <;> rfl) | (simp [*, errW_none, errW_some] <;> rfl), by repeat (first | (with_reducible first | exact HB.out | apply below_alloc | apply pw_below_drewN | apply below_drew1 | refine below_set ?_ GE714.out | refine below_set ?_ GE715.out) | exact HB.out)⟩
 ·
  replace c4 := Bool.eq_false_iff.mpr c4
  subst c4
  have H1 : (some false) = some r := by rw [if_neg (show ¬ (false = true) by decide)] at H; exact H
  clear H
  have H := H1
  clear H1
  obtain rfl := Option.some.inj H
  go_enter Tryd.func51, Tryd.ntmps51
  go_wp2_with (first | ((with_reducible refine gate_dst (N := 2) rfl ?_); refine box_event ?hg (N := 2) ?hd (cs := #[.slice A0_0 l0_0.length c0_0, .int .i64 a0_1, .int .i64 a0_2]) (t := 54) ?hr ?_; (case hd => rfl); (case hg => rfl); (case hr => first | (go_simp; done) | (go_simp; rfl)); intro gb714 hg w16 hbox hb; have n0_ := Aside0.mk (below_step (by repeat (first | (with_reducible first | exact HB.out | apply below_alloc | apply pw_below_drewN | apply below_drew1) | exact HB.out)) hb); have n1_ := Aside0.mk (hbox); have n2_ := Aside0.mk ((by rw [hg]; exact (below_size (by repeat (first | (with_reducible first | exact HB.out | apply below_alloc | apply pw_below_drewN | apply below_drew1) | exact HB.out))) : w.heap.size ≤ gb714)); have n3_ := Aside0.mk ((by rw [hg]; exact (below_size (by repeat (first | (with_reducible first | exact HB.out | apply below_alloc | apply pw_below_drewN | apply below_drew1) | exact HB.out))) : w.heap.size ≤ gb714)); clear HB; have HB := n0_; have BK714 := n1_; have GW714 := n2_; have GE714 := n3_; clear n0_ n1_ n2_ n3_; clear hb hbox hg) | ((with_reducible refine gate_dst (N := 3) rfl ?_); refine box_event ?hg (N := 3) ?hd (cs := #[.slice A1_0 l1_0.length c1_0, .int .i64 a1_1, .int .i64 a1_2]) (t := 54) ?hr ?_; (case hd => rfl); (case hg => rfl); (case hr => first | (go_simp; done) | (go_simp; rfl)); intro gb715 hg w17 hbox hb; have n0_ := Aside0.mk (blk_below (g := gb714) (o := .cells #[.slice A0_0 l0_0.length c0_0, .int .i64 a0_1, .int .i64 a0_2] 54 (0, 0)) (by (with_reducible repeat (first | refine blk_drewN ?_ _ | refine blk_drew ?_ | refine blk_alloc ?_ _)); exact BK714.out) hb); have n1_ := Aside0.mk (below_step (by repeat (first | (with_reducible first | exact HB.out | apply below_alloc | apply pw_below_drewN | apply below_drew1 | refine below_set ?_ GE714.out) | exact HB.out)) hb); have n2_ := Aside0.mk (hbox); have n3_ := Aside0.mk ((by rw [hg]; exact (below_size (by repeat (first | (with_reducible first | exact HB.out | apply below_alloc | apply pw_below_drewN | apply below_drew1 | refine below_set ?_ GE714.out) | exact HB.out))) : w.heap.size ≤ gb715)); have n4_ := Aside0.mk ((by rw [hg]; exact (below_size (by repeat (first | (with_reducible first | exact HB.out | apply below_alloc | apply pw_below_drewN | apply below_drew1 | refine below_set ?_ GE714.out) | exact HB.out))) : w.heap.size ≤ gb715)); have n5_ := Aside0.mk ((by rw [hg]; exact Nat.ne_of_lt (blk_lt (g := gb714) (o := .cells #[.slice A0_0 l0_0.length c0_0, .int .i64 a0_1, .int .i64 a0_2] 54 (0, 0)) (by (with_reducible repeat (first | refine blk_drewN ?_ _ | refine blk_drew ?_ | refine blk_alloc ?_ _)); exact BK714.out)) : gb714 ≠ gb715)); have n6_ := Aside0.mk ((by rw [hg]; exact Nat.ne_of_gt (blk_lt (g := gb714) (o := .cells #[.slice A0_0 l0_0.length c0_0, .int .i64 a0_1, .int .i64 a0_2] 54 (0, 0)) (by (with_reducible repeat (first | refine blk_drewN ?_ _ | refine blk_drew ?_ | refine blk_alloc ?_ _)); exact BK714.out)) : gb715 ≠ gb714)); clear BK714; clear HB; have BK714 := n0_; have HB := n1_; have BK715 := n2_; have GW715 := n3_; have GE715 := n4_; have NB714_715 := n5_; have NB715_714 := n6_; clear n0_ n1_ n2_ n3_ n4_ n5_ n6_; clear hb hbox hg; have hnb18 := NB714_715.out; have hnc18 := NB715_714.out; have hcz19_0 : w17.cell? ⟨gb714, 0, none⟩ = some (.slice A0_0 l0_0.length c0_0) := (blk_cell BK714.out 0).trans rfl; have hcz19_1 : w17.cell? ⟨gb714, 1, none⟩ = some (.int .i64 a0_1) := (blk_cell BK714.out 1).trans rfl; have hcz19_2 : w17.cell? ⟨gb714, 2, none⟩ = some (.int .i64 a0_2) := (blk_cell BK714.out 2).trans rfl; have hfz19_0 := blk_frozen BK714.out 0; have hfz19_1 := blk_frozen BK714.out 1; have hfz19_2 := blk_frozen BK714.out 2; have hcz20_0 : w17.cell? ⟨gb715, 0, none⟩ = some (.slice A1_0 l1_0.length c1_0) := (blk_cell BK715.out 0).trans rfl; have hcz20_1 : w17.cell? ⟨gb715, 1, none⟩ = some (.int .i64 a1_1) := (blk_cell BK715.out 1).trans rfl; have hcz20_2 : w17.cell? ⟨gb715, 2, none⟩ = some (.int .i64 a1_2) := (blk_cell BK715.out 2).trans rfl; have hfz20_0 := blk_frozen BK715.out 0; have hfz20_1 := blk_frozen BK715.out 1; have hfz20_2 := blk_frozen BK715.out 2) | ((with_reducible refine gate_callee (f := 31) rfl ?_); refine goesL_ (some 9) rfl rfl Tryd.func31 (by kernel_rfl) rfl #[.slice A0_0 l0_0.length c0_0, .slice A1_0 l1_0.length c1_0] rfl (by (try simp only [List.map_toArray, List.map_cons, List.map_nil]); first | done | rfl | (simp only [List.length_drop, List.length_take]; rfl)) ?_; (with_reducible refine (vinculumref10_Same.calls k _ _ l0_0 _ _ l1_0 false _ ?side1 ?side2 ?side3 ?side4 A3.out).mono ?_); (case side1 => repeat (first | exact (Kd.C_below HR0_0.out HB.out) | (with_reducible refine Kd.C_alloc ?_ _) | (with_reducible refine Kd.C_drewN ?_ _) | (with_reducible refine Kd.C_drew ?_))); (case side2 => exact HC0_0.out); (case side3 => repeat (first | exact (Kd.C_below HR1_0.out HB.out) | (with_reducible refine Kd.C_alloc ?_ _) | (with_reducible refine Kd.C_drewN ?_ _) | (with_reducible refine Kd.C_drew ?_))); (case side4 => exact HC1_0.out); rintro e w' ⟨rfl, ⟨nd, rfl⟩⟩; refine ⟨_, rfl, ?_⟩))
  go_ret
  exact ⟨by first | rfl | (simp [errW_none, errW_some] <;> rfl) | (simp [*, errW_none, errW_some] <;> rfl), by repeat (first | (with_reducible first | exact HB.out | apply below_alloc | apply pw_below_drewN | apply below_drew1 | refine below_set ?_ GE714.out | refine below_set ?_ GE715.out) | exact HB.out)⟩
end Go.Proofs.YtagkhoeidjlahaaDoor.G
namespace Go.Proofs.YtagkhoeidjlahaaDoor.G.Pure
open Go.Proofs.YtagkhoeidjlahaaDoorW.PrintWords Go.RowKit
set_option linter.unusedVariables false
set_option linter.unusedSimpArgs false
theorem same11_self (r : List Int × Int × Int × Int) (h : r.1.length ≤ M) : Ev (fun k => vinculumref11_Same.f k r.1 r.2.1 r.2.2.1 r.1 r.2.1 r.2.2.1) true := by
 unfold vinculumref11_Same.f
 refine ev_bind (same_self r.1 h) ?_
 refine ev_if (fun _ => ?_) fun h => absurd rfl h
 exact ev_if (fun _ => ev_now (by simp)) fun h => absurd rfl h
theorem few11_ev (x : S36) (hx : OkNode x) (a b : List Int) : Ev (fun k => vinculumlaw11_few.f k x.f0 x.f1 x.f2 x.f3 a b) (decide (cnt x ≤ 100 ∧ a.length ≤ 60 ∧ b.length ≤ 60)) := by
 unfold vinculumlaw11_few.f
 refine ev_bind (few_ev x hx 100 (by omega) (by omega)) ?_
 refine ev_if (fun h => ?_) fun h => ev_now ?_
 ·
  rw [decide_eq_true_eq] at h
  refine ev_if (fun h2 => ev_now ?_) fun h2 => ev_now ?_
  ·
   rw [decide_eq_decide]; omega
  ·
   exact (decide_eq_false (by omega)).symm
 ·
  rw [decide_eq_true_eq] at h
  exact (decide_eq_false (by omega)).symm
theorem kids_here (q : List Int) : ∀ (l : List S36) (i k : Int), i ≤ k → k ≤ i + l.length → q ++ [k] ∈ posKids q i l
 | [], i, k, h1, h2 => by
  obtain rfl : k = i := by simp at h2; omega
  simp [posKids]
 | x :: l, i, k, h1, h2 => by
  rw [posKids]
  by_cases h : k = i
  ·
   subst h; simp
  ·
   refine List.mem_cons_of_mem _ (List.mem_append_right _ (kids_here q l (i + 1) k (by omega) ?_))
   simp only [List.length_cons] at h2
   push_cast at h2
   omega
theorem kids_item (q : List Int) : ∀ (l : List S36) (i : Int) (n : Nat) (h : n < l.length) (r : List Int), r ∈ posItem q (i + n) l[n] → r ∈ posKids q i l
 | [], i, n, h, r, hr => by simp at h
 | x :: l, i, 0, h, r, hr => by
  rw [posKids]
  refine List.mem_cons_of_mem _ (List.mem_append_left _ ?_)
  simpa using hr
 | x :: l, i, n + 1, h, r, hr => by
  rw [posKids]
  refine List.mem_cons_of_mem _ (List.mem_append_right _ (kids_item q l (i + 1) n (by simpa using h) r ?_))
  rw [show i + 1 + (n : Int) = i + ((n + 1 : Nat) : Int) by push_cast; omega]
  simpa using hr
theorem slots_slot (q : List Int) (i : Int) : ∀ (l : List S36) (s : Int) (n : Nat) (h : n < l.length) (r : List Int), r ∈ posSlot (q ++ [i, s + n]) l[n] → r ∈ posSlots q i s l
 | [], s, n, h, r, hr => by simp at h
 | x :: l, s, 0, h, r, hr => by
  rw [posSlots]
  refine List.mem_append_left _ ?_
  simpa using hr
 | x :: l, s, n + 1, h, r, hr => by
  rw [posSlots]
  refine List.mem_append_right _ (slots_slot q i l (s + 1) n (by simpa using h) r ?_)
  rw [show s + 1 + (n : Int) = s + ((n + 1 : Nat) : Int) by push_cast; omega]
  simpa using hr
theorem wlk_mem : ∀ (n : Nat) (p : List Int) (x : S36) (q : List Int) (k : Int), p.length ≤ n → (wlk p x).2 = true → 0 ≤ k → k ≤ (wlk p x).1.f3.length → q ++ (p ++ [k]) ∈ posKids q 0 x.f3 := by
 intro n
 induction n with
 | zero =>
  intro p x q k h hw h0 h1
  obtain rfl : p = [] := List.eq_nil_of_length_eq_zero (by omega)
  exact kids_here q x.f3 0 k h0 (by have : (k : Int) ≤ x.f3.length := h1; omega)
 | succ n ih =>
  intro p x q k h hw h0 h1
  match p with
  | [] => exact kids_here q x.f3 0 k h0 (by have : (k : Int) ≤ x.f3.length := h1; omega)
  | [a] => simp [wlk] at hw
  | a :: b :: p =>
   rw [wlk] at hw h1
   by_cases ha : 0 ≤ a ∧ a < x.f3.length
   case neg => rw [if_neg ha] at hw; simp at hw
   rw [if_pos ha] at hw h1
   by_cases hb : 0 ≤ b ∧ b < (rd_T36 x.f3 a).f3.length
   case neg => rw [if_neg hb] at hw; simp at hw
   rw [if_pos hb] at hw h1
   obtain ⟨i, rfl⟩ : ∃ i : Nat, a = i := ⟨a.toNat, by omega⟩
   obtain ⟨j, rfl⟩ : ∃ j : Nat, b = j := ⟨b.toNat, by omega⟩
   have hi : i < x.f3.length := by omega
   rw [rdT_at x.f3 i hi] at hb hw h1
   have hj : j < x.f3[i].f3.length := by omega
   rw [rdT_at _ j hj] at hw h1
   have m := ih p _ (q ++ [(i : Int), (j : Int)]) k (by simp at h; omega) hw h0 h1
   refine kids_item q x.f3 0 i hi _ ?_
   rw [posItem_eq]
   refine slots_slot q _ x.f3[i].f3 0 j hj _ ?_
   rw [posSlot_eq]
   simpa using m
theorem idxF_yes (pos : List Int) : ∀ (l : List (List Int)) (i : Int), pos ∈ l → (idxF pos l i).2 = 0
 | [], i, h => by simp at h
 | q :: l, i, h => by
  rw [idxF]
  split
  ·
   rfl
  ·
   rename_i hq
   rcases List.mem_cons.1 h with rfl | h
   ·
    exact absurd (cmpL_self _) hq
   ·
    exact idxF_yes pos l (i + 1) h
theorem wlk_even : ∀ (n : Nat) (p : List Int) (x : S36), p.length ≤ n → (wlk p x).2 = true → ∃ m, p.length = 2 * m := by
 intro n
 induction n with
 | zero => intro p x h hw; exact ⟨0, by omega⟩
 | succ n ih =>
  intro p x h hw
  match p with
  | [] => exact ⟨0, rfl⟩
  | [a] => simp [wlk] at hw
  | a :: b :: p =>
   rw [wlk] at hw
   split at hw
   ·
    split at hw
    ·
     obtain ⟨m, hm⟩ := ih p _ (by simp at h; omega) hw
     exact ⟨m + 1, by simp [hm]; omega⟩
    ·
     simp at hw
   ·
    simp at hw
theorem rd_app (p : List Int) (a : Int) (k : Nat) (h : k < p.length) : rd (p ++ [a]) k = p[k] := by
 rw [rd_at _ k (by simp; omega), List.getElem_append_left h]
theorem rd_last (p : List Int) (a : Int) : rd (p ++ [a]) (p.length : Nat) = a := by
 rw [rd_at _ p.length (by simp)]
 simp
theorem finB_ends (p : List Int) (a b : Int) (h : a ≤ b) : finB (p ++ [a]) (p ++ [b]) p.length = (p, a, b, 0) := by
 unfold finB endsB
 rw [if_pos (by simp), if_pos (by simp), rd_last, rd_last]
 simp only [List.take_left']
 have h1 : mn a b = a := by unfold mn; split <;> omega
 have h2 : mx a b = b := by unfold mx; split <;> omega
 rw [h1, h2]
theorem btw_ends (p : List Int) (a b : Int) (h : a ≤ b) : ∀ (f k m : Nat), p.length = k + 2 * m → m ≤ f → btw f (p ++ [a]) (p ++ [b]) k = (p, a, b, 0) := by
 intro f
 induction f with
 | zero =>
  intro k m h1 h2
  obtain rfl : k = p.length := by omega
  rw [btw]; exact finB_ends p a b h
 | succ f ih =>
  intro k m h1 h2
  rw [btw]
  cases m with
  | zero =>
   obtain rfl : k = p.length := by omega
   rw [if_neg (by simp)]
   exact finB_ends p a b h
  | succ m =>
   rw [if_pos ⟨by simp; omega, by simp; omega, by rw [rd_app _ _ k (by omega), rd_app _ _ k (by omega)], by rw [rd_app _ _ (k + 1) (by omega), rd_app _ _ (k + 1) (by omega)]⟩]
   exact ih (k + 2) m (by omega) (by omega)
theorem itB_part (x : S36) (p : List Int) (a b : Int) (h : (itB x p a b).2 = 0) :
  validB x = true ∧ (idxB x (p ++ [a])).2 = 0 ∧ (idxB x (p ++ [b])).2 = 0 ∧ betB x (p ++ [a]) (p ++ [b]) = (p, a, b, 0) ∧ ((itB x p a b).1.length : Int) = b - a ∧ 0 ≤ a ∧ a ≤ b ∧ b ≤ cnt x := by
 unfold itB at h ⊢
 by_cases h1 : (rowB x p).2 = 0
 case neg => rw [if_neg h1] at h; exact absurd h h1
 rw [if_pos h1] at h ⊢
 by_cases h2 : outR (rowB x p).1.f3 a b = true
 case pos => rw [if_pos h2] at h; simp at h
 rw [if_neg h2]
 have hv : validB x = true ∧ (wlk p x).2 = true ∧ (rowB x p).1 = (wlk p x).1 := by
  unfold rowB at h1 ⊢
  by_cases e1 : validB x = true
  ·
   rw [if_pos e1] at h1 ⊢
   by_cases e2 : (wlk p x).2 = true
   ·
    rw [if_pos e2]; exact ⟨e1, e2, rfl⟩
   ·
    rw [if_neg e2] at h1; simp at h1
  ·
   rw [if_neg e1] at h1; simp at h1
 obtain ⟨v1, v2, v3⟩ := hv
 rw [v3] at h2 ⊢
 have ho : outR (wlk p x).1.f3 a b = (decide (a < 0) || decide (b < a) || decide (((wlk p x).1.f3.length : Int) < b)) := rfl
 rw [ho] at h2
 simp only [Bool.or_eq_true, decide_eq_true_eq, not_or] at h2
 obtain ⟨⟨k1, k2⟩, k3⟩ := h2
 have m := fun (k : Int) (q0 : 0 ≤ k) (q1 : k ≤ (wlk p x).1.f3.length) => wlk_mem p.length p x [] k (Nat.le_refl _) v2 q0 q1
 have i1 : (idxB x (p ++ [a])).2 = 0 := by
  unfold idxB; rw [if_pos v1]; exact idxF_yes _ _ _ (m a (by omega) (by omega))
 have i2 : (idxB x (p ++ [b])).2 = 0 := by
  unfold idxB; rw [if_pos v1]; exact idxF_yes _ _ _ (m b (by omega) (by omega))
 obtain ⟨e, he⟩ := wlk_even p.length p x (Nat.le_refl _) v2
 have hw := wlk_cnt p.length p x (Nat.le_refl _)
 rw [cnt_eq (wlk p x).1] at hw
 have hl := len_cntL (wlk p x).1.f3
 refine ⟨v1, i1, i2, ?_, ?_, by omega, by omega, by omega⟩
 ·
  unfold betB
  rw [if_pos v1, if_pos ⟨i1, i2⟩]
  exact btw_ends p a b (by omega) _ 0 e (by omega) (by simp; omega)
 ·
  unfold cutR
  simp only [List.length_drop, List.length_take]
  omega
end Go.Proofs.YtagkhoeidjlahaaDoor.G.Pure
