-- Written by pack2.py, a program of this session: this session's texts and those that the kit's printer wrote for this claim, pruned to what the claims use.
import Derived.Test.YtagkhoeidjlahaaDoorCSb2
import Derived.Test.YtagkhoeidjlahaaDoorCSb20
import Derived.Test.YtagkhoeidjlahaaDoorCSb23
import Derived.Test.YtagkhoeidjlahaaDoorCSb24
namespace Go.Proofs.YtagkhoeidjlahaaDoor.G
open Go.RowKit Go.Proofs.YtagkhoeidjlahaaDoorW.PrintWords Go.Proofs.YtagkhoeidjlahaaDoorW.PrintLast Go.Proofs.YtagkhoeidjlahaaDoorW.PrintMore
attribute [local go_sem] max2_int min2_int max_two min_two max_three min_three max_four min_four
set_option linter.unusedVariables false
set_option linter.unusedSimpArgs false
def vinculumref11_Same.f (k : Nat) (l0_0 : List Int) (a0_1 : Int) (a0_2 : Int) (l1_0 : List Int) (a1_1 : Int) (a1_2 : Int) : Option (Bool) := (vinculumref10_Same.f k l0_0 l1_0).bind fun t716 => (if t716 = true then (if a0_1 = a1_1 then (some (a0_2 == a1_2)) else (some false)) else (some false))
set_option maxHeartbeats 8000000 in
set_option maxRecDepth 100000 in
theorem vinculumref11_Same.calls (k : Nat) (A0_0 : Option Addr) (c0_0 : Nat) (l0_0 : List Int) (a0_1 : Int) (a0_2 : Int) (A1_0 : Option Addr) (c1_0 : Nat) (l1_0 : List Int) (a1_1 : Int) (a1_2 : Int) (r : Bool) (w : World) (hr0_0 : Kd.C (Kd.int .i64) w A0_0 l0_0.length l0_0) (hc0_0 : l0_0.length ≤ c0_0) (hr1_0 : Kd.C (Kd.int .i64) w A1_0 l1_0.length l1_0) (hc1_0 : l1_0.length ≤ c1_0) (h : vinculumref11_Same.f k l0_0 a0_1 a0_2 l1_0 a1_1 a1_2 = some r) :
  Calls Tryd.prog 51 #[.agg #[.slice A0_0 l0_0.length c0_0, .int .i64 a0_1, .int .i64 a0_2], .agg #[.slice A1_0 l1_0.length c1_0, .int .i64 a1_1, .int .i64 a1_2]] w fun e w' => e = .returned (.bool r) ∧ Below w.heap.size w w' := by
 have hu54 := Tryd.underlying54
 have HR0_0 := Aside0.mk hr0_0
 have HC0_0 := Aside0.mk hc0_0
 clear hr0_0 hc0_0
 have HR1_0 := Aside0.mk hr1_0
 have HC1_0 := Aside0.mk hc1_0
 clear hr1_0 hc1_0
 have HB := Aside0.mk (Below.refl w.heap.size w)
 have H : ((vinculumref10_Same.f k l0_0 l1_0).bind fun t716 => (if t716 = true then (if a0_1 = a1_1 then (some (a0_2 == a1_2)) else (some false)) else (some false))) = some r := h
 clear h
 replace H := Option.bind_eq_some_iff.mp H
 obtain ⟨t716, A30, H⟩ := H
 replace H : (if t716 = true then (if a0_1 = a1_1 then (some (a0_2 == a1_2)) else (some false)) else (some false)) = some r := H
 have A3 := Aside0.mk A30
 clear A30
 by_cases c4 : t716 = true
 ·
  subst c4
  have H1 : (if a0_1 = a1_1 then (some (a0_2 == a1_2)) else (some false)) = some r := by rw [if_pos rfl] at H; exact H
  clear H
  have H := H1
  clear H1
  by_cases c5 : a0_1 = a1_1
  ·
   rw [if_pos c5] at H
   have c5b0 : (a0_1 == a1_1) = true := beq_iff_eq.mpr c5
   have c5b1 : (a0_1 != a1_1) = false := bne_eq_false_iff_eq.mpr c5
   clear c5
   obtain rfl := Option.some.inj H
   go_enter Tryd.func51, Tryd.ntmps51
   go_wp2_with (first | ((with_reducible refine gate_dst (N := 2) rfl ?_); refine box_event ?hg (N := 2) ?hd (cs := #[.slice A0_0 l0_0.length c0_0, .int .i64 a0_1, .int .i64 a0_2]) (t := 54) ?hr ?_; (case hd => rfl); (case hg => rfl); (case hr => first | (go_simp; done) | (go_simp; rfl)); intro gb714 hg w6 hbox hb; have n0_ := Aside0.mk (below_step (by repeat (first | (with_reducible first | exact HB.out | apply below_alloc | apply pw_below_drewN | apply below_drew1) | exact HB.out)) hb); have n1_ := Aside0.mk (hbox); have n2_ := Aside0.mk ((by rw [hg]; exact (below_size (by repeat (first | (with_reducible first | exact HB.out | apply below_alloc | apply pw_below_drewN | apply below_drew1) | exact HB.out))) : w.heap.size ≤ gb714)); have n3_ := Aside0.mk ((by rw [hg]; exact (below_size (by repeat (first | (with_reducible first | exact HB.out | apply below_alloc | apply pw_below_drewN | apply below_drew1) | exact HB.out))) : w.heap.size ≤ gb714)); clear HB; have HB := n0_; have BK714 := n1_; have GW714 := n2_; have GE714 := n3_; clear n0_ n1_ n2_ n3_; clear hb hbox hg) | ((with_reducible refine gate_dst (N := 3) rfl ?_); refine box_event ?hg (N := 3) ?hd (cs := #[.slice A1_0 l1_0.length c1_0, .int .i64 a1_1, .int .i64 a1_2]) (t := 54) ?hr ?_; (case hd => rfl); (case hg => rfl); (case hr => first | (go_simp; done) | (go_simp; rfl)); intro gb715 hg w7 hbox hb; have n0_ := Aside0.mk (blk_below (g := gb714) (o := .cells #[.slice A0_0 l0_0.length c0_0, .int .i64 a0_1, .int .i64 a0_2] 54 (0, 0)) (by (with_reducible repeat (first | refine blk_drewN ?_ _ | refine blk_drew ?_ | refine blk_alloc ?_ _)); exact BK714.out) hb); have n1_ := Aside0.mk (below_step (by repeat (first | (with_reducible first | exact HB.out | apply below_alloc | apply pw_below_drewN | apply below_drew1 | refine below_set ?_ GE714.out) | exact HB.out)) hb); have n2_ := Aside0.mk (hbox); have n3_ := Aside0.mk ((by rw [hg]; exact (below_size (by repeat (first | (with_reducible first | exact HB.out | apply below_alloc | apply pw_below_drewN | apply below_drew1 | refine below_set ?_ GE714.out) | exact HB.out))) : w.heap.size ≤ gb715)); have n4_ := Aside0.mk ((by rw [hg]; exact (below_size (by repeat (first | (with_reducible first | exact HB.out | apply below_alloc | apply pw_below_drewN | apply below_drew1 | refine below_set ?_ GE714.out) | exact HB.out))) : w.heap.size ≤ gb715)); have n5_ := Aside0.mk ((by rw [hg]; exact Nat.ne_of_lt (blk_lt (g := gb714) (o := .cells #[.slice A0_0 l0_0.length c0_0, .int .i64 a0_1, .int .i64 a0_2] 54 (0, 0)) (by (with_reducible repeat (first | refine blk_drewN ?_ _ | refine blk_drew ?_ | refine blk_alloc ?_ _)); exact BK714.out)) : gb714 ≠ gb715)); have n6_ := Aside0.mk ((by rw [hg]; exact Nat.ne_of_gt (blk_lt (g := gb714) (o := .cells #[.slice A0_0 l0_0.length c0_0, .int .i64 a0_1, .int .i64 a0_2] 54 (0, 0)) (by (with_reducible repeat (first | refine blk_drewN ?_ _ | refine blk_drew ?_ | refine blk_alloc ?_ _)); exact BK714.out)) : gb715 ≠ gb714)); clear BK714; clear HB; have BK714 := n0_; have HB := n1_; have BK715 := n2_; have GW715 := n3_; have GE715 := n4_; have NB714_715 := n5_; have NB715_714 := n6_; clear n0_ n1_ n2_ n3_ n4_ n5_ n6_; clear hb hbox hg; have hnb8 := NB714_715.out; have hnc8 := NB715_714.out; have hcz9_0 : w7.cell? ⟨gb714, 0, none⟩ = some (.slice A0_0 l0_0.length c0_0) := (blk_cell BK714.out 0).trans rfl; have hcz9_1 : w7.cell? ⟨gb714, 1, none⟩ = some (.int .i64 a0_1) := (blk_cell BK714.out 1).trans rfl; have hcz9_2 : w7.cell? ⟨gb714, 2, none⟩ = some (.int .i64 a0_2) := (blk_cell BK714.out 2).trans rfl; have hfz9_0 := blk_frozen BK714.out 0; have hfz9_1 := blk_frozen BK714.out 1; have hfz9_2 := blk_frozen BK714.out 2; have hcz10_0 : w7.cell? ⟨gb715, 0, none⟩ = some (.slice A1_0 l1_0.length c1_0) := (blk_cell BK715.out 0).trans rfl; have hcz10_1 : w7.cell? ⟨gb715, 1, none⟩ = some (.int .i64 a1_1) := (blk_cell BK715.out 1).trans rfl; have hcz10_2 : w7.cell? ⟨gb715, 2, none⟩ = some (.int .i64 a1_2) := (blk_cell BK715.out 2).trans rfl; have hfz10_0 := blk_frozen BK715.out 0; have hfz10_1 := blk_frozen BK715.out 1; have hfz10_2 := blk_frozen BK715.out 2) | ((with_reducible refine gate_callee (f := 31) rfl ?_); refine goesL_ (some 9) rfl rfl Tryd.func31 (by kernel_rfl) rfl #[.slice A0_0 l0_0.length c0_0, .slice A1_0 l1_0.length c1_0] rfl (by (try simp only [List.map_toArray, List.map_cons, List.map_nil]); first | done | rfl | (simp only [List.length_drop, List.length_take]; rfl)) ?_; (with_reducible refine (vinculumref10_Same.calls k _ _ l0_0 _ _ l1_0 true _ ?side1 ?side2 ?side3 ?side4 A3.out).mono ?_); (case side1 => repeat (first | exact (Kd.C_below HR0_0.out HB.out) | (with_reducible refine Kd.C_alloc ?_ _) | (with_reducible refine Kd.C_drewN ?_ _) | (with_reducible refine Kd.C_drew ?_))); (case side2 => exact HC0_0.out); (case side3 => repeat (first | exact (Kd.C_below HR1_0.out HB.out) | (with_reducible refine Kd.C_alloc ?_ _) | (with_reducible refine Kd.C_drewN ?_ _) | (with_reducible refine Kd.C_drew ?_))); (case side4 => exact HC1_0.out); rintro e w' ⟨rfl, ⟨nd, rfl⟩⟩; refine ⟨_, rfl, ?_⟩))
   go_ret
   exact ⟨by first | rfl | (simp [errW_none, errW_some] <;> rfl) | (simp [*, errW_none, errW_some] <;> rfl), by repeat (first | (with_reducible first | exact HB.out | apply below_alloc | apply pw_below_drewN | apply below_drew1 | refine below_set ?_ GE714.out | refine below_set ?_ GE715.out) | exact HB.out)⟩
  ·
   rw [if_neg c5] at H
   have c5b0 : (a0_1 == a1_1) = false := beq_eq_false_iff_ne.mpr c5
   have c5b1 : (a0_1 != a1_1) = true := bne_iff_ne.mpr c5
   obtain rfl := Option.some.inj H
   go_enter Tryd.func51, Tryd.ntmps51
   go_wp2_with (first | ((with_reducible refine gate_dst (N := 2) rfl ?_); refine box_event ?hg (N := 2) ?hd (cs := #[.slice A0_0 l0_0.length c0_0, .int .i64 a0_1, .int .i64 a0_2]) (t := 54) ?hr ?_; (case hd => rfl); (case hg => rfl); (case hr => first | (go_simp; done) | (go_simp; rfl)); intro gb714 hg w11 hbox hb; have n0_ := Aside0.mk (below_step (by repeat (first | (with_reducible first | exact HB.out | apply below_alloc | apply pw_below_drewN | apply below_drew1) | exact HB.out)) hb); have n1_ := Aside0.mk (hbox); have n2_ := Aside0.mk ((by rw [hg]; exact (below_size (by repeat (first | (with_reducible first | exact HB.out | apply below_alloc | apply pw_below_drewN | apply below_drew1) | exact HB.out))) : w.heap.size ≤ gb714)); have n3_ := Aside0.mk ((by rw [hg]; exact (below_size (by repeat (first | (with_reducible first | exact HB.out | apply below_alloc | apply pw_below_drewN | apply below_drew1) | exact HB.out))) : w.heap.size ≤ gb714)); clear HB; have HB := n0_; have BK714 := n1_; have GW714 := n2_; have GE714 := n3_; clear n0_ n1_ n2_ n3_; clear hb hbox hg) | ((with_reducible refine gate_dst (N := 3) rfl ?_); refine box_event ?hg (N := 3) ?hd (cs := #[.slice A1_0 l1_0.length c1_0, .int .i64 a1_1, .int .i64 a1_2]) (t := 54) ?hr ?_; (case hd => rfl); (case hg => rfl); (case hr => first | (go_simp; done) | (go_simp; rfl)); intro gb715 hg w12 hbox hb; have n0_ := Aside0.mk (blk_below (g := gb714) (o := .cells #[.slice A0_0 l0_0.length c0_0, .int .i64 a0_1, .int .i64 a0_2] 54 (0, 0)) (by (with_reducible repeat (first | refine blk_drewN ?_ _ | refine blk_drew ?_ | refine blk_alloc ?_ _)); exact BK714.out) hb); have n1_ := Aside0.mk (below_step (by repeat (first | (with_reducible first | exact HB.out | apply below_alloc | apply pw_below_drewN | apply below_drew1 | refine below_set ?_ GE714.out) | exact HB.out)) hb); have n2_ := Aside0.mk (hbox); have n3_ := Aside0.mk ((by rw [hg]; exact (below_size (by repeat (first | (with_reducible first | exact HB.out | apply below_alloc | apply pw_below_drewN | apply below_drew1 | refine below_set ?_ GE714.out) | exact HB.out))) : w.heap.size ≤ gb715)); have n4_ := Aside0.mk ((by rw [hg]; exact (below_size (by repeat (first | (with_reducible first | exact HB.out | apply below_alloc | apply pw_below_drewN | apply below_drew1 | refine below_set ?_ GE714.out) | exact HB.out))) : w.heap.size ≤ gb715)); have n5_ := Aside0.mk ((by rw [hg]; exact Nat.ne_of_lt (blk_lt (g := gb714) (o := .cells #[.slice A0_0 l0_0.length c0_0, .int .i64 a0_1, .int .i64 a0_2] 54 (0, 0)) (by (with_reducible repeat (first | refine blk_drewN ?_ _ | refine blk_drew ?_ | refine blk_alloc ?_ _)); exact BK714.out)) : gb714 ≠ gb715)); have n6_ := Aside0.mk ((by rw [hg]; exact Nat.ne_of_gt (blk_lt (g := gb714) (o := .cells #[.slice A0_0 l0_0.length c0_0, .int .i64 a0_1, .int .i64 a0_2] 54 (0, 0)) (by (with_reducible repeat (first | refine blk_drewN ?_ _ | refine blk_drew ?_ | refine blk_alloc ?_ _)); exact BK714.out)) : gb715 ≠ gb714)); clear BK714; clear HB; have BK714 := n0_; have HB := n1_; have BK715 := n2_; have GW715 := n3_; have GE715 := n4_; have NB714_715 := n5_; have NB715_714 := n6_; clear n0_ n1_ n2_ n3_ n4_ n5_ n6_; clear hb hbox hg; have hnb13 := NB714_715.out; have hnc13 := NB715_714.out; have hcz14_0 : w12.cell? ⟨gb714, 0, none⟩ = some (.slice A0_0 l0_0.length c0_0) := (blk_cell BK714.out 0).trans rfl; have hcz14_1 : w12.cell? ⟨gb714, 1, none⟩ = some (.int .i64 a0_1) := (blk_cell BK714.out 1).trans rfl; have hcz14_2 : w12.cell? ⟨gb714, 2, none⟩ = some (.int .i64 a0_2) := (blk_cell BK714.out 2).trans rfl; have hfz14_0 := blk_frozen BK714.out 0; have hfz14_1 := blk_frozen BK714.out 1; have hfz14_2 := blk_frozen BK714.out 2; have hcz15_0 : w12.cell? ⟨gb715, 0, none⟩ = some (.slice A1_0 l1_0.length c1_0) := (blk_cell BK715.out 0).trans rfl; have hcz15_1 : w12.cell? ⟨gb715, 1, none⟩ = some (.int .i64 a1_1) := (blk_cell BK715.out 1).trans rfl; have hcz15_2 : w12.cell? ⟨gb715, 2, none⟩ = some (.int .i64 a1_2) := (blk_cell BK715.out 2).trans rfl; have hfz15_0 := blk_frozen BK715.out 0; have hfz15_1 := blk_frozen BK715.out 1; have hfz15_2 := blk_frozen BK715.out 2) | ((with_reducible refine gate_callee (f := 31) rfl ?_); refine goesL_ (some 9) rfl rfl Tryd.func31 (by kernel_rfl) rfl #[.slice A0_0 l0_0.length c0_0, .slice A1_0 l1_0.length c1_0] rfl (by (try simp only [List.map_toArray, List.map_cons, List.map_nil]); first | done | rfl | (simp only [List.length_drop, List.length_take]; rfl)) ?_; (with_reducible refine (vinculumref10_Same.calls k _ _ l0_0 _ _ l1_0 true _ ?side1 ?side2 ?side3 ?side4 A3.out).mono ?_); (case side1 => repeat (first | exact (Kd.C_below HR0_0.out HB.out) | (with_reducible refine Kd.C_alloc ?_ _) | (with_reducible refine Kd.C_drewN ?_ _) | (with_reducible refine Kd.C_drew ?_))); (case side2 => exact HC0_0.out); (case side3 => repeat (first | exact (Kd.C_below HR1_0.out HB.out) | (with_reducible refine Kd.C_alloc ?_ _) | (with_reducible refine Kd.C_drewN ?_ _) | (with_reducible refine Kd.C_drew ?_))); (case side4 => exact HC1_0.out); rintro e w' ⟨rfl, ⟨nd, rfl⟩⟩; refine ⟨_, rfl, ?_⟩))
   go_ret
   exact ⟨by first | rfl | (simp [errW_none, errW_some] <;> rfl) | (simp [*, errW_none, errW_some] <;> rfl), by repeat (first | (with_reducible first | exact HB.out | apply below_alloc | apply pw_below_drewN | apply below_drew1 | refine below_set ?_ GE714.out | refine below_set ?_ GE715.out) | exact HB.out)⟩
 ·
  replace c4 := Bool.eq_false_iff.mpr c4
  subst c4
  have H1 : (some false) = some r := by rw [if_neg (show ¬ (false = true) by decide)] at H; exact H
  clear H
  have H := H1
  clear H1
  obtain rfl := Option.some.inj H
  go_enter Tryd.func51, Tryd.ntmps51
  go_wp2_with (first | ((with_reducible refine gate_dst (N := 2) rfl ?_); refine box_event ?hg (N := 2) ?hd (cs := #[.slice A0_0 l0_0.length c0_0, .int .i64 a0_1, .int .i64 a0_2]) (t := 54) ?hr ?_; (case hd => rfl); (case hg => rfl); (case hr => first | (go_simp; done) | (go_simp; rfl)); intro gb714 hg w16 hbox hb; have n0_ := Aside0.mk (below_step (by repeat (first | (with_reducible first | exact HB.out | apply below_alloc | apply pw_below_drewN | apply below_drew1) | exact HB.out)) hb); have n1_ := Aside0.mk (hbox); have n2_ := Aside0.mk ((by rw [hg]; exact (below_size (by repeat (first | (with_reducible first | exact HB.out | apply below_alloc | apply pw_below_drewN | apply below_drew1) | exact HB.out))) : w.heap.size ≤ gb714)); have n3_ := Aside0.mk ((by rw [hg]; exact (below_size (by repeat (first | (with_reducible first | exact HB.out | apply below_alloc | apply pw_below_drewN | apply below_drew1) | exact HB.out))) : w.heap.size ≤ gb714)); clear HB; have HB := n0_; have BK714 := n1_; have GW714 := n2_; have GE714 := n3_; clear n0_ n1_ n2_ n3_; clear hb hbox hg) | ((with_reducible refine gate_dst (N := 3) rfl ?_); refine box_event ?hg (N := 3) ?hd (cs := #[.slice A1_0 l1_0.length c1_0, .int .i64 a1_1, .int .i64 a1_2]) (t := 54) ?hr ?_; (case hd => rfl); (case hg => rfl); (case hr => first | (go_simp; done) | (go_simp; rfl)); intro gb715 hg w17 hbox hb; have n0_ := Aside0.mk (blk_below (g := gb714) (o := .cells #[.slice A0_0 l0_0.length c0_0, .int .i64 a0_1, .int .i64 a0_2] 54 (0, 0)) (by (with_reducible repeat (first | refine blk_drewN ?_ _ | refine blk_drew ?_ | refine blk_alloc ?_ _)); exact BK714.out) hb); have n1_ := Aside0.mk (below_step (by repeat (first | (with_reducible first | exact HB.out | apply below_alloc | apply pw_below_drewN | apply below_drew1 | refine below_set ?_ GE714.out) | exact HB.out)) hb); have n2_ := Aside0.mk (hbox); have n3_ := Aside0.mk ((by rw [hg]; exact (below_size (by repeat (first | (with_reducible first | exact HB.out | apply below_alloc | apply pw_below_drewN | apply below_drew1 | refine below_set ?_ GE714.out) | exact HB.out))) : w.heap.size ≤ gb715)); have n4_ := Aside0.mk ((by rw [hg]; exact (below_size (by repeat (first | (with_reducible first | exact HB.out | apply below_alloc | apply pw_below_drewN | apply below_drew1 | refine below_set ?_ GE714.out) | exact HB.out))) : w.heap.size ≤ gb715)); have n5_ := Aside0.mk ((by rw [hg]; exact Nat.ne_of_lt (blk_lt (g := gb714) (o := .cells #[.slice A0_0 l0_0.length c0_0, .int .i64 a0_1, .int .i64 a0_2] 54 (0, 0)) (by (with_reducible repeat (first | refine blk_drewN ?_ _ | refine blk_drew ?_ | refine blk_alloc ?_ _)); exact BK714.out)) : gb714 ≠ gb715)); have n6_ := Aside0.mk ((by rw [hg]; exact Nat.ne_of_gt (blk_lt (g := gb714) (o := .cells #[.slice A0_0 l0_0.length c0_0, .int .i64 a0_1, .int .i64 a0_2] 54 (0, 0)) (by (with_reducible repeat (first | refine blk_drewN ?_ _ | refine blk_drew ?_ | refine blk_alloc ?_ _)); exact BK714.out)) : gb715 ≠ gb714)); clear BK714; clear HB; have BK714 := n0_; have HB := n1_; have BK715 := n2_; have GW715 := n3_; have GE715 := n4_; have NB714_715 := n5_; have NB715_714 := n6_; clear n0_ n1_ n2_ n3_ n4_ n5_ n6_; clear hb hbox hg; have hnb18 := NB714_715.out; have hnc18 := NB715_714.out; have hcz19_0 : w17.cell? ⟨gb714, 0, none⟩ = some (.slice A0_0 l0_0.length c0_0) := (blk_cell BK714.out 0).trans rfl; have hcz19_1 : w17.cell? ⟨gb714, 1, none⟩ = some (.int .i64 a0_1) := (blk_cell BK714.out 1).trans rfl; have hcz19_2 : w17.cell? ⟨gb714, 2, none⟩ = some (.int .i64 a0_2) := (blk_cell BK714.out 2).trans rfl; have hfz19_0 := blk_frozen BK714.out 0; have hfz19_1 := blk_frozen BK714.out 1; have hfz19_2 := blk_frozen BK714.out 2; have hcz20_0 : w17.cell? ⟨gb715, 0, none⟩ = some (.slice A1_0 l1_0.length c1_0) := (blk_cell BK715.out 0).trans rfl; have hcz20_1 : w17.cell? ⟨gb715, 1, none⟩ = some (.int .i64 a1_1) := (blk_cell BK715.out 1).trans rfl; have hcz20_2 : w17.cell? ⟨gb715, 2, none⟩ = some (.int .i64 a1_2) := (blk_cell BK715.out 2).trans rfl; have hfz20_0 := blk_frozen BK715.out 0; have hfz20_1 := blk_frozen BK715.out 1; have hfz20_2 := blk_frozen BK715.out 2) | ((with_reducible refine gate_callee (f := 31) rfl ?_); refine goesL_ (some 9) rfl rfl Tryd.func31 (by kernel_rfl) rfl #[.slice A0_0 l0_0.length c0_0, .slice A1_0 l1_0.length c1_0] rfl (by (try simp only [List.map_toArray, List.map_cons, List.map_nil]); first | done | rfl | (simp only [List.length_drop, List.length_take]; rfl)) ?_; (with_reducible refine (vinculumref10_Same.calls k _ _ l0_0 _ _ l1_0 false _ ?side1 ?side2 ?side3 ?side4 A3.out).mono ?_); (case side1 => repeat (first | exact (Kd.C_below HR0_0.out HB.out) | (with_reducible refine Kd.C_alloc ?_ _) | (with_reducible refine Kd.C_drewN ?_ _) | (with_reducible refine Kd.C_drew ?_))); (case side2 => exact HC0_0.out); (case side3 => repeat (first | exact (Kd.C_below HR1_0.out HB.out) | (with_reducible refine Kd.C_alloc ?_ _) | (with_reducible refine Kd.C_drewN ?_ _) | (with_reducible refine Kd.C_drew ?_))); (case side4 => exact HC1_0.out); rintro e w' ⟨rfl, ⟨nd, rfl⟩⟩; refine ⟨_, rfl, ?_⟩))
  go_ret
  exact ⟨by first | rfl | (simp [errW_none, errW_some] <;> rfl) | (simp [*, errW_none, errW_some] <;> rfl), by repeat (first | (with_reducible first | exact HB.out | apply below_alloc | apply pw_below_drewN | apply below_drew1 | refine below_set ?_ GE714.out | refine below_set ?_ GE715.out) | exact HB.out)⟩
end Go.Proofs.YtagkhoeidjlahaaDoor.G
namespace Go.Proofs.YtagkhoeidjlahaaDoor.G.Pure
open Go.Proofs.YtagkhoeidjlahaaDoorW.PrintWords Go.RowKit
set_option linter.unusedVariables false
set_option linter.unusedSimpArgs false
theorem endsR_eq (a : List Int) (k : Nat) : endsR a k = endsB a k := by
 unfold endsR endsB
 by_cases h1 : a.length = k + 1
 ·
  rw [if_pos (by omega), if_pos h1]
 ·
  rw [if_neg (by omega), if_neg h1]
theorem finR_eq (a b : List Int) (k : Nat) : finR a b k = finB a b k := by
 unfold finR finB
 rw [endsR_eq, endsR_eq, Int.toNat_natCast]
theorem rBet_l (a b : List Int) (ha : a.length ≤ 1000000) (hb : b.length ≤ 1000000) : ∀ (f k : Nat), a.length ≤ k + f → k < a.length → k < b.length → Ev (fun n => rbl a b n k) (btw f a b k) := by
 intro f
 induction f with
 | zero => intro k h1 h2 h3; omega
 | succ f ih =>
  intro k h1 h2 h3
  have e1 : (k : Int) + 1 = ((k + 1 : Nat) : Int) := by omega
  refine Ev.step (fun n => by rw [rbl]) ?_
  refine ev_if (fun _ => ?_) fun h => absurd ⟨by omega, by omega, by omega, by omega, by omega⟩ h
  rw [btw]
  have hc : condR a b k = decide (k + 2 < a.length ∧ k + 2 < b.length ∧ rd a k = rd b k ∧ rd a (k + 1 : Nat) = rd b (k + 1 : Nat)) := by
   unfold condR
   rw [e1, Bool.eq_iff_iff]
   simp only [Bool.and_eq_true, decide_eq_true_eq]
   constructor
   ·
    rintro ⟨⟨⟨x1, x2⟩, x3⟩, x4⟩; exact ⟨by omega, by omega, x3, x4⟩
   ·
    rintro ⟨x1, x2, x3, x4⟩; exact ⟨⟨⟨by omega, by omega⟩, x3⟩, x4⟩
  refine ev_if (fun h => ?_) fun h => ?_
  ·
   rw [hc, decide_eq_true_eq] at h
   rw [if_pos h]
   have := ih (k + 2) (by omega) (by omega) (by omega)
   exact_mod_cast this
  ·
   rw [hc, decide_eq_true_eq] at h
   rw [if_neg h]
   exact ev_now (finR_eq a b k)
theorem rBet_ev (x : S36) (hx : OkNode x) (hc : cnt x ≤ 100000) (a b : List Int) (ha : a.length ≤ 1000000) (hb : b.length ≤ 1000000) : Ev (fun k => vinculumref11_Between.f k x.f0 x.f1 x.f2 x.f3 a b) (betB x a b) := by
 unfold vinculumref11_Between.f betB
 refine ev_bind (rValid_ev x hx (by omega)) ?_
 refine ev_if (fun hv => ?_) fun hv => ev_now (by rw [if_neg hv])
 rw [if_pos hv]
 refine ev_bind (rPValid_ev x hx hc a) ?_
 refine ev_if (fun h1 => ?_) fun h1 => ev_now ?_
 ·
  have h1' : (idxB x a).2 = 0 := by simpa using h1
  refine ev_bind (rPValid_ev x hx hc b) ?_
  refine ev_if (fun h2 => ?_) fun h2 => ev_now ?_
  ·
   have h2' : (idxB x b).2 = 0 := by simpa using h2
   rw [if_pos ⟨h1', h2'⟩]
   exact rBet_l a b ha hb a.length 0 (by omega) (pos_ne x hv a h1') (pos_ne x hv b h2')
  ·
   rw [if_neg (fun h => h2 (by simp [h.2]))]
 ·
  rw [if_neg (fun h => h1 (by simp [h.1]))]
theorem same11_self (r : List Int × Int × Int × Int) (h : r.1.length ≤ M) : Ev (fun k => vinculumref11_Same.f k r.1 r.2.1 r.2.2.1 r.1 r.2.1 r.2.2.1) true := by
 unfold vinculumref11_Same.f
 refine ev_bind (same_self r.1 h) ?_
 refine ev_if (fun _ => ?_) fun h => absurd rfl h
 exact ev_if (fun _ => ev_now (by simp)) fun h => absurd rfl h
theorem few11_ev (x : S36) (hx : OkNode x) (a b : List Int) : Ev (fun k => vinculumlaw11_few.f k x.f0 x.f1 x.f2 x.f3 a b) (decide (cnt x ≤ 100 ∧ a.length ≤ 60 ∧ b.length ≤ 60)) := by
 unfold vinculumlaw11_few.f
 refine ev_bind (few_ev x hx 100 (by omega) (by omega)) ?_
 refine ev_if (fun h => ?_) fun h => ev_now ?_
 ·
  rw [decide_eq_true_eq] at h
  refine ev_if (fun h2 => ev_now ?_) fun h2 => ev_now ?_
  ·
   rw [decide_eq_decide]; omega
  ·
   exact (decide_eq_false (by omega)).symm
 ·
  rw [decide_eq_true_eq] at h
  exact (decide_eq_false (by omega)).symm
end Go.Proofs.YtagkhoeidjlahaaDoor.G.Pure
