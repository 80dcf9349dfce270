-- Written by pack2.py: this session's texts and the printer's, pruned.
import Derived.Test.YtagkhoeidjlahaaDoorCSe2
import Derived.Test.YtagkhoeidjlahaaDoorCSe27
import Derived.Test.YtagkhoeidjlahaaDoorCSe9
import Derived.Test.YtagkhoeidjlahaaDoorCSe29
import Derived.Test.YtagkhoeidjlahaaDoorCSe30
namespace Go.Proofs.YtagkhoeidjlahaaDoor.G
open Go.RowKit Go.Proofs.YtagkhoeidjlahaaDoorW.PrintWords Go.Proofs.YtagkhoeidjlahaaDoorW.PrintLast Go.Proofs.YtagkhoeidjlahaaDoorW.PrintMore
attribute [local go_sem] max2_int min2_int max_two min_two max_three min_three max_four min_four
set_option linter.unusedVariables false
set_option linter.unusedSimpArgs false
mutual
def selection_Between.j1 : Nat → List Int → List Int → Int → Option (List Int × Int × Int × Int)
 | 0, _, _, _ => none
 | k + 1, x1, x2, x8 => if 0 ≤ x8 then (if x8 ≤ (x1.length : Int) then ((selection_cover.f (x1.drop (x8 : Int).toNat)).bind fun bt666 => (if x8 ≤ (x2.length : Int) then ((selection_cover.f (x2.drop (x8 : Int).toNat)).bind fun bt669 => ((selection_join.f bt666.1 bt666.2 bt669.1 bt669.2).bind fun bt671 => ((slices_Clone_int_int.f (x1.take (x8 : Int).toNat)).bind fun t675 => (some (t675, bt671.1, bt671.2, 0))))) else (none))) else (none)) else (none)
def selection_Between.l0 : Nat → List Int → List Int → Int → Option (List Int × Int × Int × Int)
 | 0, _, _, _ => none
 | k + 1, x1, x2, x8 => if (x1.length : Int) > (wrap64 (x8 + 2)) then (if (x2.length : Int) > (wrap64 (x8 + 2)) then (if 0 ≤ x8 then (if x8 ≤ (wrap64 (x8 + 2)) then (if (wrap64 (x8 + 2)) ≤ (x1.length : Int) then (if (wrap64 (x8 + 2)) ≤ (x2.length : Int) then ((slices_Equal_int_int.f k ((x1.take ((wrap64 (x8 + 2)) : Int).toNat).drop (x8 : Int).toNat) ((x2.take ((wrap64 (x8 + 2)) : Int).toNat).drop (x8 : Int).toNat)).bind fun t664 => (if t664 = true then (selection_Between.l0 k x1 x2 (wrap64 (x8 + 2))) else (selection_Between.j1 k x1 x2 x8))) else (none)) else (none)) else (none)) else (none)) else (selection_Between.j1 k x1 x2 x8)) else (selection_Between.j1 k x1 x2 x8)
end
def selection_Between.f (k : Nat) (a0_0 : Int) (a0_1 : ByteArray) (a0_2 : Int) (l0_3 : List (S36)) (l1 : List Int) (l2 : List Int) : Option (List Int × Int × Int × Int) := (node_Valid.f k a0_0 a0_1 a0_2 l0_3).bind fun t659 => (if t659 = true then ((position_Valid.f k a0_0 a0_1 a0_2 l0_3 l1).bind fun t660 => (if t660 = true then ((position_Valid.f k a0_0 a0_1 a0_2 l0_3 l2).bind fun t661 => (if t661 = true then (selection_Between.l0 k l1 l2 0) else (some (([] : List Int), 0, 0, 2)))) else (some (([] : List Int), 0, 0, 2)))) else (some (([] : List Int), 0, 0, 1)))
def selection_Between.T6 : Bool × List (List Nat × List Nat) := (true, [([], []), ([0], [0]), ([], []), ([2], [2]), ([1, 3], [1, 3]), ([4], [4]), ([5], [5]), ([6, 5], [5, 6]), ([5], [5]), ([8, 5], [5, 8]), ([7, 9, 5], [5, 7, 9]), ([5, 10], [5, 10]), ([11, 5], [11]), ([12], [12]), ([12], [12]), ([12], [12]), ([15, 12], [12, 15]), ([13, 14, 16, 12], [12, 13, 14, 16]), ([12], [12]), ([12], [12]), ([12], [12]), ([20, 12], [12, 20]), ([18, 19, 21, 12], [12, 18, 19, 21]), ([17, 22, 12, 12], [12, 17, 22]), ([12, 23], [12, 23])])
def selection_Between.B6 : List Nat := [0, 1, 0, 4, 15, 31, 63, 127, 63, 319, 1023, 2047, 4095, 8191, 8191, 8191, 40959, 131071, 8191, 8191, 8191, 1056767, 3940351, 8388607, 16777215]
theorem selection_Between.tab6 : rtab .any (opsOf Tryd.f47 6) = selection_Between.T6 := by kernel_rfl
theorem selection_Between.bits6 : waitsOk selection_Between.T6.2 selection_Between.B6 = true := by kernel_rfl
def selection_Between.T8 : Bool × List (List Nat × List Nat) := (true, [([], []), ([], []), ([0, 1], [0, 1]), ([2], [2]), ([], []), ([], []), ([4, 5], [4, 5]), ([6, 3], [6]), ([3, 7, 7], [3, 7]), ([], []), ([9, 8, 8, 0, 1, 2, 3, 4, 5, 6, 7, 8, 9], [8, 9])])
def selection_Between.B8 : List Nat := [0, 0, 3, 7, 0, 0, 48, 127, 255, 0, 1023]
theorem selection_Between.tab8 : rtab .any (opsOf Tryd.f47 8) = selection_Between.T8 := by kernel_rfl
theorem selection_Between.bits8 : waitsOk selection_Between.T8.2 selection_Between.B8 = true := by kernel_rfl
def selection_Between.T9 : Bool × List (List Nat × List Nat) := (true, [([], []), ([], []), ([0, 1], [0, 1]), ([2], [2]), ([], []), ([4], [4]), ([], []), ([6], [6]), ([3, 5, 7], [3, 5, 7]), ([8, 3, 0, 1, 2, 3, 4, 5, 6, 7, 8], [8]), ([9, 0, 1, 2, 3, 4, 5, 6, 7, 8, 9], [])])
def selection_Between.B9 : List Nat := [0, 0, 3, 7, 0, 16, 0, 64, 255, 511, 1023]
theorem selection_Between.tab9 : rtab .any (opsOf Tryd.f47 9) = selection_Between.T9 := by kernel_rfl
theorem selection_Between.bits9 : waitsOk selection_Between.T9.2 selection_Between.B9 = true := by kernel_rfl
set_option maxHeartbeats 8000000 in
set_option maxRecDepth 100000 in
theorem selection_Between.calls (k : Nat) (a0_0 : Int) (a0_1 : ByteArray) (a0_2 : Int) (A0_3 : Option Addr) (c0_3 : Nat) (l0_3 : List (S36)) (A1 : Option Addr) (c1 : Nat) (l1 : List Int) (A2 : Option Addr) (c2 : Nat) (l2 : List Int) (r1 : List Int) (r2 : Int) (r3 : Int) (r4 : Int) (w : World) (hr0_3 : Kd.C k36 w A0_3 l0_3.length l0_3) (hc0_3 : l0_3.length ≤ c0_3) (hr1 : Kd.C (Kd.int .i64) w A1 l1.length l1) (hc1 : l1.length ≤ c1) (hr2 : Kd.C (Kd.int .i64) w A2 l2.length l2) (hc2 : l2.length ≤ c2) (h : selection_Between.f k a0_0 a0_1 a0_2 l0_3 l1 l2 = some (r1, r2, r3, r4)) :
  Calls Tryd.prog 47 #[.agg #[.int .i64 a0_0, .string a0_1, .int .i64 a0_2, .slice A0_3 l0_3.length c0_3], .slice A1 l1.length c1, .slice A2 l2.length c2] w fun e w' => ∃ v0_ : Value, e = .returned (.tuple #[.agg #[v0_, .int .i64 r2, .int .i64 r3], .int .i64 r4]) ∧ Kd.R (Kd.int .i64) 3 w' w.heap.size (fun _ => True) v0_ r1 ∧ Below w.heap.size w w' := by
 have hu36 := Tryd.underlying36
 have hu54 := Tryd.underlying54
 have hu85 := Tryd.underlying85
 have HR0_3 := Aside0.mk hr0_3
 have HC0_3 := Aside0.mk hc0_3
 clear hr0_3 hc0_3
 have HR1 := Aside0.mk hr1
 have HC1 := Aside0.mk hc1
 clear hr1 hc1
 have HR2 := Aside0.mk hr2
 have HC2 := Aside0.mk hc2
 clear hr2 hc2
 have HB := Aside0.mk (Below.refl w.heap.size w)
 have H : ((node_Valid.f k a0_0 a0_1 a0_2 l0_3).bind fun t659 => (if t659 = true then ((position_Valid.f k a0_0 a0_1 a0_2 l0_3 l1).bind fun t660 => (if t660 = true then ((position_Valid.f k a0_0 a0_1 a0_2 l0_3 l2).bind fun t661 => (if t661 = true then (selection_Between.l0 k l1 l2 0) else (some (([] : List Int), 0, 0, 2)))) else (some (([] : List Int), 0, 0, 2)))) else (some (([] : List Int), 0, 0, 1)))) = some (r1, r2, r3, r4) := h
 clear h
 replace H := Option.bind_eq_some_iff.mp H
 obtain ⟨t659, A40, H⟩ := H
 replace H : (if t659 = true then ((position_Valid.f k a0_0 a0_1 a0_2 l0_3 l1).bind fun t660 => (if t660 = true then ((position_Valid.f k a0_0 a0_1 a0_2 l0_3 l2).bind fun t661 => (if t661 = true then (selection_Between.l0 k l1 l2 0) else (some (([] : List Int), 0, 0, 2)))) else (some (([] : List Int), 0, 0, 2)))) else (some (([] : List Int), 0, 0, 1))) = some (r1, r2, r3, r4) := H
 have A4 := Aside0.mk A40
 clear A40
 by_cases c5 : t659 = true
 ·
  subst c5
  have H1 : ((position_Valid.f k a0_0 a0_1 a0_2 l0_3 l1).bind fun t660 => (if t660 = true then ((position_Valid.f k a0_0 a0_1 a0_2 l0_3 l2).bind fun t661 => (if t661 = true then (selection_Between.l0 k l1 l2 0) else (some (([] : List Int), 0, 0, 2)))) else (some (([] : List Int), 0, 0, 2)))) = some (r1, r2, r3, r4) := by rw [if_pos rfl] at H; exact H
  clear H
  have H := H1
  clear H1
  replace H := Option.bind_eq_some_iff.mp H
  obtain ⟨t660, A60, H⟩ := H
  replace H : (if t660 = true then ((position_Valid.f k a0_0 a0_1 a0_2 l0_3 l2).bind fun t661 => (if t661 = true then (selection_Between.l0 k l1 l2 0) else (some (([] : List Int), 0, 0, 2)))) else (some (([] : List Int), 0, 0, 2))) = some (r1, r2, r3, r4) := H
  have A6 := Aside0.mk A60
  clear A60
  by_cases c7 : t660 = true
  ·
   subst c7
   have H1 : ((position_Valid.f k a0_0 a0_1 a0_2 l0_3 l2).bind fun t661 => (if t661 = true then (selection_Between.l0 k l1 l2 0) else (some (([] : List Int), 0, 0, 2)))) = some (r1, r2, r3, r4) := by rw [if_pos rfl] at H; exact H
   clear H
   have H := H1
   clear H1
   replace H := Option.bind_eq_some_iff.mp H
   obtain ⟨t661, A80, H⟩ := H
   replace H : (if t661 = true then (selection_Between.l0 k l1 l2 0) else (some (([] : List Int), 0, 0, 2))) = some (r1, r2, r3, r4) := H
   have A8 := Aside0.mk A80
   clear A80
   by_cases c9 : t661 = true
   ·
    subst c9
    have H1 : (selection_Between.l0 k l1 l2 0) = some (r1, r2, r3, r4) := by rw [if_pos rfl] at H; exact H
    clear H
    have H := H1
    clear H1
    have HC10 := Aside0.mk H
    clear H
    go_enter Tryd.func47, Tryd.ntmps47
    go_upto_block 1 with (first | ((with_reducible refine gate_dst (N := 3) rfl ?_); (try (refine gate_guard (by rfl) ?_; dsimp only)); refine box_event ?hg (N := 3) ?hd (cs := #[.int .i64 a0_0, .string a0_1, .int .i64 a0_2, .slice A0_3 l0_3.length c0_3]) (t := 36) ?hr ?_; (case hd => rfl); (case hg => rfl); (case hr => first | (go_simp; done) | (go_simp; rfl)); intro gb657 hg w11 hbox hb; have n0_ := Aside0.mk (below_step (by repeat (first | (with_reducible first | exact HB.out | apply below_alloc | apply pw_below_drewN | apply below_drew1) | exact HB.out)) hb); have n1_ := Aside0.mk (hbox); have n2_ := Aside0.mk ((by rw [hg]; exact (below_size (by repeat (first | (with_reducible first | exact HB.out | apply below_alloc | apply pw_below_drewN | apply below_drew1) | exact HB.out))) : w.heap.size ≤ gb657)); have n3_ := Aside0.mk ((by rw [hg]; exact (below_size (by repeat (first | (with_reducible first | exact HB.out | apply below_alloc | apply pw_below_drewN | apply below_drew1) | exact HB.out))) : w.heap.size ≤ gb657)); clear HB; have HB := n0_; have BK657 := n1_; have GW657 := n2_; have GE657 := n3_; clear n0_ n1_ n2_ n3_; clear hb hbox hg) | ((with_reducible refine gate_dst (N := 6) rfl ?_); (try (refine gate_guard (by rfl) ?_; dsimp only)); refine box_event ?hg (N := 6) ?hd (cs := #[.slice none 0 0, .int .i64 0, .int .i64 0]) (t := 54) ?hr ?_; (case hd => rfl); (case hg => rfl); (case hr => first | (go_simp; done) | (go_simp; rfl)); intro gb658 hg w12 hbox hb; have n0_ := Aside0.mk (blk_below (g := gb657) (o := .cells #[.int .i64 a0_0, .string a0_1, .int .i64 a0_2, .slice A0_3 l0_3.length c0_3] 36 (0, 0)) (by (with_reducible repeat (first | refine blk_drewN ?_ _ | refine blk_drew ?_ | refine blk_alloc ?_ _)); exact BK657.out) hb); have n1_ := Aside0.mk (below_step (by repeat (first | (with_reducible first | exact HB.out | apply below_alloc | apply pw_below_drewN | apply below_drew1 | refine below_set ?_ GE657.out) | exact HB.out)) hb); have n2_ := Aside0.mk (hbox); have n3_ := Aside0.mk ((by rw [hg]; exact (below_size (by repeat (first | (with_reducible first | exact HB.out | apply below_alloc | apply pw_below_drewN | apply below_drew1 | refine below_set ?_ GE657.out) | exact HB.out))) : w.heap.size ≤ gb658)); have n4_ := Aside0.mk ((by rw [hg]; exact (below_size (by repeat (first | (with_reducible first | exact HB.out | apply below_alloc | apply pw_below_drewN | apply below_drew1 | refine below_set ?_ GE657.out) | exact HB.out))) : w.heap.size ≤ gb658)); have n5_ := Aside0.mk ((by rw [hg]; exact Nat.ne_of_lt (blk_lt (g := gb657) (o := .cells #[.int .i64 a0_0, .string a0_1, .int .i64 a0_2, .slice A0_3 l0_3.length c0_3] 36 (0, 0)) (by (with_reducible repeat (first | refine blk_drewN ?_ _ | refine blk_drew ?_ | refine blk_alloc ?_ _)); exact BK657.out)) : gb657 ≠ gb658)); have n6_ := Aside0.mk ((by rw [hg]; exact Nat.ne_of_gt (blk_lt (g := gb657) (o := .cells #[.int .i64 a0_0, .string a0_1, .int .i64 a0_2, .slice A0_3 l0_3.length c0_3] 36 (0, 0)) (by (with_reducible repeat (first | refine blk_drewN ?_ _ | refine blk_drew ?_ | refine blk_alloc ?_ _)); exact BK657.out)) : gb658 ≠ gb657)); clear BK657; clear HB; have BK657 := n0_; have HB := n1_; have BK658 := n2_; have GW658 := n3_; have GE658 := n4_; have NB657_658 := n5_; have NB658_657 := n6_; clear n0_ n1_ n2_ n3_ n4_ n5_ n6_; clear hb hbox hg; have hnb13 := NB657_658.out; have hnc13 := NB658_657.out; have hcz14_0 : w12.cell? ⟨gb657, 0, none⟩ = some (.int .i64 a0_0) := (blk_cell BK657.out 0).trans rfl; have hcz14_1 : w12.cell? ⟨gb657, 1, none⟩ = some (.string a0_1) := (blk_cell BK657.out 1).trans rfl; have hcz14_2 : w12.cell? ⟨gb657, 2, none⟩ = some (.int .i64 a0_2) := (blk_cell BK657.out 2).trans rfl; have hcz14_3 : w12.cell? ⟨gb657, 3, none⟩ = some (.slice A0_3 l0_3.length c0_3) := (blk_cell BK657.out 3).trans rfl; have hfz14_0 := blk_frozen BK657.out 0; have hfz14_1 := blk_frozen BK657.out 1; have hfz14_2 := blk_frozen BK657.out 2; have hfz14_3 := blk_frozen BK657.out 3) | ((with_reducible refine gate_callee (f := 72) rfl ?_); refine goesL_ (some 12) rfl rfl Tryd.func72 (by kernel_rfl) rfl #[.agg #[.int .i64 a0_0, .string a0_1, .int .i64 a0_2, .slice A0_3 l0_3.length c0_3]] rfl (by (try simp only [List.map_toArray, List.map_cons, List.map_nil]); first | done | rfl | (simp only [List.length_drop, List.length_take]; rfl)) ?_; (with_reducible refine (node_Valid.calls k a0_0 a0_1 a0_2 _ _ l0_3 true _ ?side1 ?side2 A4.out).mono ?_); (case side1 => repeat (first | exact (Kd.C_below HR0_3.out HB.out) | (with_reducible refine Kd.C_alloc ?_ _) | (with_reducible refine Kd.C_drewN ?_ _) | (with_reducible refine Kd.C_drew ?_))); (case side2 => exact HC0_3.out); rintro e w15 ⟨rfl, hb⟩; refine ⟨_, rfl, ?_⟩; have n0_ := Aside0.mk (blk_below (g := gb657) (o := .cells #[.int .i64 a0_0, .string a0_1, .int .i64 a0_2, .slice A0_3 l0_3.length c0_3] 36 (0, 0)) (by (with_reducible repeat (first | refine blk_drewN ?_ _ | refine blk_drew ?_ | refine blk_alloc ?_ _)); exact BK657.out) hb); have n1_ := Aside0.mk (blk_below (g := gb658) (o := .cells #[.slice none 0 0, .int .i64 0, .int .i64 0] 54 (0, 0)) (by (with_reducible repeat (first | refine blk_drewN ?_ _ | refine blk_drew ?_ | refine blk_alloc ?_ _)); exact BK658.out) hb); have n2_ := Aside0.mk (below_step (by repeat (first | (with_reducible first | exact HB.out | apply below_alloc | apply pw_below_drewN | apply below_drew1 | refine below_set ?_ GE657.out | refine below_set ?_ GE658.out) | exact HB.out)) hb); clear BK657; clear BK658; clear HB; have BK657 := n0_; have BK658 := n1_; have HB := n2_; clear n0_ n1_ n2_; (try clear hb); (try clear hb2); (try clear hk); (try clear hi); have hcz16_0 : w15.cell? ⟨gb657, 0, none⟩ = some (.int .i64 a0_0) := (blk_cell BK657.out 0).trans rfl; have hcz16_1 : w15.cell? ⟨gb657, 1, none⟩ = some (.string a0_1) := (blk_cell BK657.out 1).trans rfl; have hcz16_2 : w15.cell? ⟨gb657, 2, none⟩ = some (.int .i64 a0_2) := (blk_cell BK657.out 2).trans rfl; have hcz16_3 : w15.cell? ⟨gb657, 3, none⟩ = some (.slice A0_3 l0_3.length c0_3) := (blk_cell BK657.out 3).trans rfl; have hfz16_0 := blk_frozen BK657.out 0; have hfz16_1 := blk_frozen BK657.out 1; have hfz16_2 := blk_frozen BK657.out 2; have hfz16_3 := blk_frozen BK657.out 3) | ((with_reducible refine gate_callee (f := 41) rfl ?_); refine goesL_ (some 18) rfl rfl Tryd.func41 (by kernel_rfl) rfl #[.agg #[.int .i64 a0_0, .string a0_1, .int .i64 a0_2, .slice A0_3 l0_3.length c0_3], .slice A1 l1.length c1] rfl (by (try simp only [List.map_toArray, List.map_cons, List.map_nil]); first | done | rfl | (simp only [List.length_drop, List.length_take]; rfl)) ?_; (with_reducible refine (position_Valid.calls k a0_0 a0_1 a0_2 _ _ l0_3 _ _ l1 true _ ?side1 ?side2 ?side3 ?side4 A6.out).mono ?_); (case side1 => repeat (first | exact (Kd.C_below HR0_3.out HB.out) | (with_reducible refine Kd.C_alloc ?_ _) | (with_reducible refine Kd.C_drewN ?_ _) | (with_reducible refine Kd.C_drew ?_))); (case side2 => exact HC0_3.out); (case side3 => repeat (first | exact (Kd.C_below HR1.out HB.out) | (with_reducible refine Kd.C_alloc ?_ _) | (with_reducible refine Kd.C_drewN ?_ _) | (with_reducible refine Kd.C_drew ?_))); (case side4 => exact HC1.out); rintro e w17 ⟨rfl, hb⟩; refine ⟨_, rfl, ?_⟩; have n0_ := Aside0.mk (blk_below (g := gb657) (o := .cells #[.int .i64 a0_0, .string a0_1, .int .i64 a0_2, .slice A0_3 l0_3.length c0_3] 36 (0, 0)) (by (with_reducible repeat (first | refine blk_drewN ?_ _ | refine blk_drew ?_ | refine blk_alloc ?_ _)); exact BK657.out) hb); have n1_ := Aside0.mk (blk_below (g := gb658) (o := .cells #[.slice none 0 0, .int .i64 0, .int .i64 0] 54 (0, 0)) (by (with_reducible repeat (first | refine blk_drewN ?_ _ | refine blk_drew ?_ | refine blk_alloc ?_ _)); exact BK658.out) hb); have n2_ := Aside0.mk (below_step (by repeat (first | (with_reducible first | exact HB.out | apply below_alloc | apply pw_below_drewN | apply below_drew1 | refine below_set ?_ GE657.out | refine below_set ?_ GE658.out) | exact HB.out)) hb); clear BK657; clear BK658; clear HB; have BK657 := n0_; have BK658 := n1_; have HB := n2_; clear n0_ n1_ n2_; (try clear hb); (try clear hb2); (try clear hk); (try clear hi); have hcz18_0 : w17.cell? ⟨gb657, 0, none⟩ = some (.int .i64 a0_0) := (blk_cell BK657.out 0).trans rfl; have hcz18_1 : w17.cell? ⟨gb657, 1, none⟩ = some (.string a0_1) := (blk_cell BK657.out 1).trans rfl; have hcz18_2 : w17.cell? ⟨gb657, 2, none⟩ = some (.int .i64 a0_2) := (blk_cell BK657.out 2).trans rfl; have hcz18_3 : w17.cell? ⟨gb657, 3, none⟩ = some (.slice A0_3 l0_3.length c0_3) := (blk_cell BK657.out 3).trans rfl; have hfz18_0 := blk_frozen BK657.out 0; have hfz18_1 := blk_frozen BK657.out 1; have hfz18_2 := blk_frozen BK657.out 2; have hfz18_3 := blk_frozen BK657.out 3) | (go_at_call 41; (with_reducible refine (position_Valid.calls k a0_0 a0_1 a0_2 _ _ l0_3 _ _ l2 true _ ?side1 ?side2 ?side3 ?side4 A8.out).mono ?_); (case side1 => repeat (first | exact (Kd.C_below HR0_3.out HB.out) | (with_reducible refine Kd.C_alloc ?_ _) | (with_reducible refine Kd.C_drewN ?_ _) | (with_reducible refine Kd.C_drew ?_))); (case side2 => exact HC0_3.out); (case side3 => repeat (first | exact (Kd.C_below HR2.out HB.out) | (with_reducible refine Kd.C_alloc ?_ _) | (with_reducible refine Kd.C_drewN ?_ _) | (with_reducible refine Kd.C_drew ?_))); (case side4 => exact HC2.out); rintro e w19 ⟨rfl, hb⟩; have n0_ := Aside0.mk (blk_below (g := gb657) (o := .cells #[.int .i64 a0_0, .string a0_1, .int .i64 a0_2, .slice A0_3 l0_3.length c0_3] 36 (0, 0)) (by (with_reducible repeat (first | refine blk_drewN ?_ _ | refine blk_drew ?_ | refine blk_alloc ?_ _)); exact BK657.out) hb); have n1_ := Aside0.mk (blk_below (g := gb658) (o := .cells #[.slice none 0 0, .int .i64 0, .int .i64 0] 54 (0, 0)) (by (with_reducible repeat (first | refine blk_drewN ?_ _ | refine blk_drew ?_ | refine blk_alloc ?_ _)); exact BK658.out) hb); have n2_ := Aside0.mk (below_step (by repeat (first | (with_reducible first | exact HB.out | apply below_alloc | apply pw_below_drewN | apply below_drew1 | refine below_set ?_ GE657.out | refine below_set ?_ GE658.out) | exact HB.out)) hb); clear BK657; clear BK658; clear HB; have BK657 := n0_; have BK658 := n1_; have HB := n2_; clear n0_ n1_ n2_; (try clear hb); (try clear hb2); (try clear hk); (try clear hi)))
    (try simp only [Act.put, List.setIfInBounds_toArray, List.set_cons_zero, List.set_cons_succ])
    go_cut [8] (fun v8 wc => ∃ (kq : Nat) (x8_9 : Int), v8 = .int .i64 x8_9 ∧ Aside0 (selection_Between.j1 kq l1 l2 x8_9 = some (r1, r2, r3, r4)) ∧ Aside0 (kq ≤ k) ∧ Aside0 (wc.heap[gb657]? = some (.cells #[.int .i64 a0_0, .string a0_1, .int .i64 a0_2, (.slice A0_3 l0_3.length c0_3)] 36 (0, 0))) ∧ Aside0 (wc.heap[gb658]? = some (.cells #[(.slice none 0 0), .int .i64 0, .int .i64 0] 54 (0, 0))) ∧ Aside0 (Below w.heap.size w wc))
    case first =>
     have H := HC10.out
     clear HC10
     have H' := Aside0.mk H
     clear H
     go_wp2
     go_loopg [8] k (fun kq v8 w' => ∃ (x8_1 : Int), v8 = .int .i64 x8_1 ∧ Aside0 (selection_Between.l0 kq l1 l2 x8_1 = some (r1, r2, r3, r4)) ∧ Aside0 (kq ≤ k) ∧ Aside0 (w'.heap[gb657]? = some (.cells #[.int .i64 a0_0, .string a0_1, .int .i64 a0_2, (.slice A0_3 l0_3.length c0_3)] 36 (0, 0))) ∧ Aside0 (w'.heap[gb658]? = some (.cells #[(.slice none 0 0), .int .i64 0, .int .i64 0] 54 (0, 0))) ∧ Aside0 (Below w.heap.size w w'))
     case atStart => exact ⟨(0), (by first | rfl | (simp; done) | (simp [*]; done)), H', ⟨Nat.le_refl _⟩, ⟨by (with_reducible repeat (first | refine blk_drewN ?_ _ | refine blk_drew ?_ | refine blk_alloc ?_ _)); exact BK657.out⟩, ⟨by (with_reducible repeat (first | refine blk_drewN ?_ _ | refine blk_drew ?_ | refine blk_alloc ?_ _)); exact BK658.out⟩, ⟨by repeat (first | (with_reducible first | exact HB.out | apply below_alloc | apply pw_below_drewN | apply below_drew1 | refine below_set ?_ GE657.out | refine below_set ?_ GE658.out) | exact HB.out)⟩⟩
     case round =>
      clear H'
      try clear c1
      try clear c2
      try clear p2
      try clear c4
      try clear c5
      try clear c7
      try clear c9
      try clear c13
      try clear hcz14_0
      try clear hcz14_1
      try clear hcz14_2
      try clear hcz14_3
      try clear hcz16_0
      try clear hcz16_1
      try clear hcz16_2
      try clear hcz16_3
      try clear hcz18_0
      try clear hcz18_1
      try clear hcz18_2
      try clear hcz18_3
      try clear hfz14_0
      try clear hfz14_1
      try clear hfz14_2
      try clear hfz14_3
      try clear hfz16_0
      try clear hfz16_1
      try clear hfz16_2
      try clear hfz16_3
      try clear hfz18_0
      try clear hfz18_1
      try clear hfz18_2
      try clear hfz18_3
      obtain ⟨x8_1, rfl, HA, HK1, BK657, BK658, HB⟩ := hrel
      cases gk with
      | zero => exact absurd HA.out (by simp [selection_Between.l0])
      | succ k1 =>
       have H := HA.out
       clear HA
       simp only [selection_Between.l0] at H
       by_cases c20 : (l1.length : Int) > (wrap64 (x8_1 + 2))
       ·
        rw [if_pos c20] at H
        have c20b0 : decide ((wrap64 (x8_1 + 2)) < (l1.length : Int)) = true := decide_eq_true c20
        clear c20
        (first | rw [c20b0] | (simp only [i64_w, i32_w]; rw [c20b0]) | skip)
        by_cases c21 : (l2.length : Int) > (wrap64 (x8_1 + 2))
        ·
         rw [if_pos c21] at H
         have c21b0 : decide ((wrap64 (x8_1 + 2)) < (l2.length : Int)) = true := decide_eq_true c21
         clear c21
         by_cases c22 : 0 ≤ x8_1
         ·
          rw [if_pos c22] at H
          have c22b0 := eq_true c22
          have c22b1 : decide (0 ≤ x8_1) = true := decide_eq_true c22
          clear c22
          by_cases c23 : x8_1 ≤ (wrap64 (x8_1 + 2))
          ·
           rw [if_pos c23] at H
           have c23b0 := eq_true c23
           have c23b1 : decide (x8_1 ≤ (wrap64 (x8_1 + 2))) = true := decide_eq_true c23
           by_cases c24 : (wrap64 (x8_1 + 2)) ≤ (l1.length : Int)
           ·
            rw [if_pos c24] at H
            have c24b0 := eq_true c24
            have c24b1 : decide ((wrap64 (x8_1 + 2)) ≤ (l1.length : Int)) = true := decide_eq_true c24
            have c25b0 := eq_true (of_decide_eq_true (by first | (with_reducible assumption) | assumption) : 0 ≤ x8_1)
            have c26b0 := eq_true (of_decide_eq_true (by first | (with_reducible assumption) | assumption) : x8_1 ≤ (wrap64 (x8_1 + 2)))
            by_cases c27 : (wrap64 (x8_1 + 2)) ≤ (l2.length : Int)
            ·
             rw [if_pos c27] at H
             have c27b0 := eq_true c27
             have c27b1 : decide ((wrap64 (x8_1 + 2)) ≤ (l2.length : Int)) = true := decide_eq_true c27
             replace H := Option.bind_eq_some_iff.mp H
             obtain ⟨t664, A280, H⟩ := H
             replace H : (if t664 = true then (selection_Between.l0 k1 l1 l2 (wrap64 (x8_1 + 2))) else (selection_Between.j1 k1 l1 l2 x8_1)) = some (r1, r2, r3, r4) := H
             have A28 := Aside0.mk A280
             clear A280
             by_cases c29 : t664 = true
             ·
              subst c29
              have H1 : (selection_Between.l0 k1 l1 l2 (wrap64 (x8_1 + 2))) = some (r1, r2, r3, r4) := by rw [if_pos rfl] at H; exact H
              clear H
              have H := H1
              clear H1
              have H' := Aside0.mk H
              clear H
              try go_wp2
              have n0_ := Aside0.mk (blk_drew BK657.out)
              have n1_ := Aside0.mk (blk_drew BK658.out)
              have n2_ := Aside0.mk (below_drew1 HB.out)
              clear BK657
              clear BK658
              clear HB
              have BK657 := n0_
              have BK658 := n1_
              have HB := n2_
              clear n0_ n1_ n2_
              obtain ⟨i031, hi031, _, hsz31, _⟩ := info_parts info3
              obtain ⟨A31, hcut31, hA31, hC31⟩ := print_mid_of (P := Tryd.prog) (Value.int .i64) 0 26 3 .i64 .i64 Tryd.underlying26 hi031 hsz31 A1 c1 l1 x8_1 (wrap64 (x8_1 + 2)) (of_decide_eq_true (by first | (with_reducible assumption) | assumption)) (by first | omega | exact of_decide_eq_true (by first | (with_reducible assumption) | assumption)) (of_decide_eq_true (by first | (with_reducible assumption) | assumption)) HC1.out
              have HR662 := Aside0.mk (Kd.C_of_reads (h1 := fun _ => rfl) (hA31 _ (Kd.reads_of_C HR1.out)))
              have HC662 := Aside0.mk hC31
              clear hA31 hC31 hi031 hsz31
              obtain ⟨i032, hi032, _, hsz32, _⟩ := info_parts info3
              obtain ⟨A32, hcut32, hA32, hC32⟩ := print_mid_of (P := Tryd.prog) (Value.int .i64) 0 26 3 .i64 .i64 Tryd.underlying26 hi032 hsz32 A2 c2 l2 x8_1 (wrap64 (x8_1 + 2)) (of_decide_eq_true (by first | (with_reducible assumption) | assumption)) (by first | omega | exact of_decide_eq_true (by first | (with_reducible assumption) | assumption)) (of_decide_eq_true (by first | (with_reducible assumption) | assumption)) HC2.out
              have HR663 := Aside0.mk (Kd.C_of_reads (h1 := fun _ => rfl) (hA32 _ (Kd.reads_of_C HR2.out)))
              have HC663 := Aside0.mk hC32
              clear hA32 hC32 hi032 hsz32
              refine start_ (n := 25) (S := fun w' => True) (ds := []) #[false, false, false, false, false, false, false, false, false, false, false, false, false, false, false, false, false, false, false, false, false, false, false, false, false] (by kernel_rfl) rfl rfl trivial (fun hHeld => ?_); refine with_tabW selection_Between.tab6 selection_Between.bits6 (fun HT_ HW_ => ?_)
              generalize wr.drew = w30 at BK657 BK658 HB HR662 HR663 hHeld ⊢
              refine pure_ (i := 0) (N := some 27) (v := ?_) (a' := ?_) #[true, false, false, false, false, false, false, false, false, false, false, false, false, false, false, false, false, false, false, false, false, false, false, false, false] rfl rfl (any_of HT_.out (by kernel_rfl)) (fun _ _ _ h => h) (Or.inl ⟨by rfl, ?_⟩) ?_ ?_
              rotate_left
              ·
               intro w'
               go_simp
               with_reducible rfl
              rotate_left
              ·
               simp only [Act.put, List.setIfInBounds_toArray, List.set_cons_zero, List.set_cons_succ, i64_w, i32_w]
               rfl
              refine pure_ (i := 1) (N := some 28) (v := ?_) (a' := ?_) #[true, true, false, false, false, false, false, false, false, false, false, false, false, false, false, false, false, false, false, false, false, false, false, false, false] rfl rfl (any_of HT_.out (by kernel_rfl)) (fun _ _ _ h => h) (Or.inl ⟨by rfl, ?_⟩) ?_ ?_
              rotate_left
              ·
               intro w'
               go_simp
               with_reducible rfl
              rotate_left
              ·
               simp only [Act.put, List.setIfInBounds_toArray, List.set_cons_zero, List.set_cons_succ, i64_w, i32_w]
               rfl
              refine pure_ (i := 2) (N := some 29) (v := ?_) (a' := ?_) #[true, true, true, false, false, false, false, false, false, false, false, false, false, false, false, false, false, false, false, false, false, false, false, false, false] rfl rfl (any_of HT_.out (by kernel_rfl)) (fun _ _ _ h => h) (Or.inl ⟨by rfl, ?_⟩) ?_ ?_
              rotate_left
              ·
               intro w'
               go_simp
               with_reducible rfl
              rotate_left
              ·
               simp only [Act.put, List.setIfInBounds_toArray, List.set_cons_zero, List.set_cons_succ, i64_w, i32_w]
               rfl
              refine pure_ (i := 3) (N := some 30) (v := ?_) (a' := ?_) #[true, true, true, true, false, false, false, false, false, false, false, false, false, false, false, false, false, false, false, false, false, false, false, false, false] rfl rfl (any_of HT_.out (by kernel_rfl)) (fun _ _ _ h => h) (Or.inl ⟨by rfl, ?_⟩) ?_ ?_
              rotate_left
              ·
               intro w'
               go_simp
               with_reducible rfl
              rotate_left
              ·
               simp only [Act.put, List.setIfInBounds_toArray, List.set_cons_zero, List.set_cons_succ, i64_w, i32_w]
               rfl
              refine pure_ (i := 4) (N := some 31) (v := ?_) (a' := ?_) #[true, true, true, true, true, false, false, false, false, false, false, false, false, false, false, false, false, false, false, false, false, false, false, false, false] rfl rfl (any_of HT_.out (by kernel_rfl)) (fun _ _ _ h => h) (Or.inl ⟨by rfl, ?_⟩) ?_ ?_
              rotate_left
              ·
               intro w'
               go_simp
               with_reducible rfl
              rotate_left
              ·
               simp only [Act.put, List.setIfInBounds_toArray, List.set_cons_zero, List.set_cons_succ, i64_w, i32_w]
               rfl
              refine pure_ (i := 5) (N := some 32) (v := ?_) (a' := ?_) #[true, true, true, true, true, true, false, false, false, false, false, false, false, false, false, false, false, false, false, false, false, false, false, false, false] rfl rfl (any_of HT_.out (by kernel_rfl)) (fun _ _ _ h => h) (Or.inl ⟨by rfl, ?_⟩) ?_ ?_
              rotate_left
              ·
               intro w'
               go_simp
               with_reducible rfl
              rotate_left
              ·
               simp only [Act.put, List.setIfInBounds_toArray, List.set_cons_zero, List.set_cons_succ, i64_w, i32_w]
               rfl
              refine pure_ (i := 6) (N := some 33) (v := ?_) (a' := ?_) #[true, true, true, true, true, true, true, false, false, false, false, false, false, false, false, false, false, false, false, false, false, false, false, false, false] rfl rfl (any_of HT_.out (by kernel_rfl)) (fun _ _ _ h => h) (Or.inl ⟨by rfl, ?_⟩) ?_ ?_
              rotate_left
              ·
               intro w'
               go_simp
               with_reducible rfl
              rotate_left
              ·
               simp only [Act.put, List.setIfInBounds_toArray, List.set_cons_zero, List.set_cons_succ, i64_w, i32_w]
               rfl
              refine pure_ (i := 7) (N := some 34) (v := ?_) (a' := ?_) #[true, true, true, true, true, true, true, true, false, false, false, false, false, false, false, false, false, false, false, false, false, false, false, false, false] rfl rfl (any_of HT_.out (by kernel_rfl)) (fun _ _ _ h => h) (Or.inl ⟨by rfl, ?_⟩) ?_ ?_
              rotate_left
              ·
               intro w'
               go_simp
               with_reducible rfl
              rotate_left
              ·
               simp only [Act.put, List.setIfInBounds_toArray, List.set_cons_zero, List.set_cons_succ, i64_w, i32_w]
               rfl
              refine pure_ (i := 8) (N := some 35) (v := ?_) (a' := ?_) #[true, true, true, true, true, true, true, true, true, false, false, false, false, false, false, false, false, false, false, false, false, false, false, false, false] rfl rfl (any_of HT_.out (by kernel_rfl)) (fun _ _ _ h => h) (Or.inl ⟨by rfl, ?_⟩) ?_ ?_
              rotate_left
              ·
               intro w'
               go_simp
               with_reducible rfl
              rotate_left
              ·
               simp only [Act.put, List.setIfInBounds_toArray, List.set_cons_zero, List.set_cons_succ, i64_w, i32_w]
               rfl
              refine pure_ (i := 9) (N := some 36) (v := ?_) (a' := ?_) #[true, true, true, true, true, true, true, true, true, true, false, false, false, false, false, false, false, false, false, false, false, false, false, false, false] rfl rfl (any_of HT_.out (by kernel_rfl)) (fun _ _ _ h => h) (Or.inl ⟨by rfl, ?_⟩) ?_ ?_
              rotate_left
              ·
               intro w'
               go_simp
               with_reducible rfl
              rotate_left
              ·
               simp only [Act.put, List.setIfInBounds_toArray, List.set_cons_zero, List.set_cons_succ, i64_w, i32_w]
               rfl
              refine pure_ (i := 10) (N := some 37) (v := ?_) (a' := ?_) #[true, true, true, true, true, true, true, true, true, true, true, false, false, false, false, false, false, false, false, false, false, false, false, false, false] rfl rfl (any_of HT_.out (by kernel_rfl)) (fun _ _ _ h => h) (Or.inl ⟨by rfl, ?_⟩) ?_ ?_
              rotate_left
              ·
               intro w'
               go_simp
               with_reducible rfl
              rotate_left
              ·
               simp only [Act.put, List.setIfInBounds_toArray, List.set_cons_zero, List.set_cons_succ, i64_w, i32_w]
               rfl
              refine pure_ (i := 11) (N := some 38) (v := ?_) (a' := ?_) #[true, true, true, true, true, true, true, true, true, true, true, true, false, false, false, false, false, false, false, false, false, false, false, false, false] rfl rfl (any_of HT_.out (by kernel_rfl)) (fun _ _ _ h => h) (Or.inl ⟨by rfl, ?_⟩) ?_ ?_
              rotate_left
              ·
               intro w'
               go_simp
               with_reducible rfl
              rotate_left
              ·
               simp only [Act.put, List.setIfInBounds_toArray, List.set_cons_zero, List.set_cons_succ, i64_w, i32_w]
               rfl
              refine pure_ (i := 12) (N := some 39) (v := ?_) (a' := ?_) #[true, true, true, true, true, true, true, true, true, true, true, true, true, false, false, false, false, false, false, false, false, false, false, false, false] rfl rfl (any_of HT_.out (by kernel_rfl)) (fun _ _ _ h => h) (Or.inl ⟨by rfl, ?_⟩) ?_ ?_
              rotate_left
              ·
               intro w'
               go_simp
               with_reducible rfl
              rotate_left
              ·
               simp only [Act.put, List.setIfInBounds_toArray, List.set_cons_zero, List.set_cons_succ, i64_w, i32_w]
               rfl
              refine pure_ (i := 13) (N := some 40) (v := ?_) (a' := ?_) #[true, true, true, true, true, true, true, true, true, true, true, true, true, true, false, false, false, false, false, false, false, false, false, false, false] rfl rfl (any_of HT_.out (by kernel_rfl)) (fun _ _ _ h => h) (Or.inl ⟨by rfl, ?_⟩) ?_ ?_
              rotate_left
              ·
               intro w'
               go_simp
               with_reducible rfl
              rotate_left
              ·
               simp only [Act.put, List.setIfInBounds_toArray, List.set_cons_zero, List.set_cons_succ, i64_w, i32_w]
               rfl
              refine pure_ (i := 14) (N := some 41) (v := ?_) (a' := ?_) #[true, true, true, true, true, true, true, true, true, true, true, true, true, true, true, false, false, false, false, false, false, false, false, false, false] rfl rfl (any_of HT_.out (by kernel_rfl)) (fun _ _ _ h => h) (Or.inl ⟨by rfl, ?_⟩) ?_ ?_
              rotate_left
              ·
               intro w'
               go_simp
               with_reducible rfl
              rotate_left
              ·
               simp only [Act.put, List.setIfInBounds_toArray, List.set_cons_zero, List.set_cons_succ, i64_w, i32_w]
               rfl
              refine pure_ (i := 15) (N := some 42) (v := ?_) (a' := ?_) #[true, true, true, true, true, true, true, true, true, true, true, true, true, true, true, true, false, false, false, false, false, false, false, false, false] rfl rfl (any_of HT_.out (by kernel_rfl)) (fun _ _ _ h => h) (Or.inl ⟨by rfl, ?_⟩) ?_ ?_
              rotate_left
              ·
               intro w'
               go_simp
               with_reducible rfl
              rotate_left
              ·
               simp only [Act.put, List.setIfInBounds_toArray, List.set_cons_zero, List.set_cons_succ, i64_w, i32_w]
               rfl
              refine pure_ (i := 16) (N := some 43) (v := ?_) (a' := ?_) #[true, true, true, true, true, true, true, true, true, true, true, true, true, true, true, true, true, false, false, false, false, false, false, false, false] rfl rfl (any_of HT_.out (by kernel_rfl)) (fun _ _ _ h => h) (Or.inl ⟨by rfl, ?_⟩) ?_ ?_
              rotate_left
              ·
               intro w'
               go_simp
               with_reducible rfl
              rotate_left
              ·
               simp only [Act.put, List.setIfInBounds_toArray, List.set_cons_zero, List.set_cons_succ, i64_w, i32_w]
               rfl
              refine pure_ (i := 17) (N := some 44) (v := ?_) (a' := ?_) #[true, true, true, true, true, true, true, true, true, true, true, true, true, true, true, true, true, true, false, false, false, false, false, false, false] rfl rfl (any_of HT_.out (by kernel_rfl)) (fun _ _ _ h => h) (Or.inl ⟨by rfl, ?_⟩) ?_ ?_
              rotate_left
              ·
               intro w'
               go_simp
               with_reducible rfl
              rotate_left
              ·
               simp only [Act.put, List.setIfInBounds_toArray, List.set_cons_zero, List.set_cons_succ, i64_w, i32_w]
               rfl
              refine pure_ (i := 18) (N := some 45) (v := ?_) (a' := ?_) #[true, true, true, true, true, true, true, true, true, true, true, true, true, true, true, true, true, true, true, false, false, false, false, false, false] rfl rfl (any_of HT_.out (by kernel_rfl)) (fun _ _ _ h => h) (Or.inl ⟨by rfl, ?_⟩) ?_ ?_
              rotate_left
              ·
               intro w'
               go_simp
               with_reducible rfl
              rotate_left
              ·
               simp only [Act.put, List.setIfInBounds_toArray, List.set_cons_zero, List.set_cons_succ, i64_w, i32_w]
               rfl
              refine pure_ (i := 19) (N := some 46) (v := ?_) (a' := ?_) #[true, true, true, true, true, true, true, true, true, true, true, true, true, true, true, true, true, true, true, true, false, false, false, false, false] rfl rfl (any_of HT_.out (by kernel_rfl)) (fun _ _ _ h => h) (Or.inl ⟨by rfl, ?_⟩) ?_ ?_
              rotate_left
              ·
               intro w'
               go_simp
               with_reducible rfl
              rotate_left
              ·
               simp only [Act.put, List.setIfInBounds_toArray, List.set_cons_zero, List.set_cons_succ, i64_w, i32_w]
               rfl
              refine pure_ (i := 20) (N := some 47) (v := ?_) (a' := ?_) #[true, true, true, true, true, true, true, true, true, true, true, true, true, true, true, true, true, true, true, true, true, false, false, false, false] rfl rfl (any_of HT_.out (by kernel_rfl)) (fun _ _ _ h => h) (Or.inl ⟨by rfl, ?_⟩) ?_ ?_
              rotate_left
              ·
               intro w'
               go_simp
               with_reducible rfl
              rotate_left
              ·
               simp only [Act.put, List.setIfInBounds_toArray, List.set_cons_zero, List.set_cons_succ, i64_w, i32_w]
               rfl
              refine pure_ (i := 21) (N := some 48) (v := ?_) (a' := ?_) #[true, true, true, true, true, true, true, true, true, true, true, true, true, true, true, true, true, true, true, true, true, true, false, false, false] rfl rfl (any_of HT_.out (by kernel_rfl)) (fun _ _ _ h => h) (Or.inl ⟨by rfl, ?_⟩) ?_ ?_
              rotate_left
              ·
               intro w'
               go_simp
               with_reducible rfl
              rotate_left
              ·
               simp only [Act.put, List.setIfInBounds_toArray, List.set_cons_zero, List.set_cons_succ, i64_w, i32_w]
               rfl
              refine pure_ (i := 22) (N := some 49) (v := ?_) (a' := ?_) #[true, true, true, true, true, true, true, true, true, true, true, true, true, true, true, true, true, true, true, true, true, true, true, false, false] rfl rfl (any_of HT_.out (by kernel_rfl)) (fun _ _ _ h => h) (Or.inl ⟨by rfl, ?_⟩) ?_ ?_
              rotate_left
              ·
               intro w'
               go_simp
               with_reducible rfl
              rotate_left
              ·
               simp only [Act.put, List.setIfInBounds_toArray, List.set_cons_zero, List.set_cons_succ, i64_w, i32_w]
               rfl
              refine one_ (i := 23) (N := some 50) #[true, true, true, true, true, true, true, true, true, true, true, true, true, true, true, true, true, true, true, true, true, true, true, true, false] rfl rfl (one_of HT_.out (by kernel_rfl)) (by decide) (fun K hK => ?_)
              refine goes_ Tryd.func78 (by kernel_rfl) rfl #[.slice A31 ((l1.take ((wrap64 (x8_1 + 2)) : Int).toNat).drop (x8_1 : Int).toNat).length (c1 - x8_1.toNat), .slice A32 ((l2.take ((wrap64 (x8_1 + 2)) : Int).toNat).drop (x8_1 : Int).toNat).length (c2 - x8_1.toNat)] (by rfl) rfl rfl (by (try simp only [List.map_toArray, List.map_cons, List.map_nil]); first | done | (rw [show ((l1.take ((wrap64 (x8_1 + 2)) : Int).toNat).drop (x8_1 : Int).toNat).length = ((wrap64 (x8_1 + 2)).toNat - x8_1.toNat) from (by rw [List.length_drop, List.length_take]; have h_ : ((wrap64 (x8_1 + 2)) : Int) ≤ (l1.length : Int) := of_decide_eq_true (by first | (with_reducible assumption) | assumption); omega), show ((l2.take ((wrap64 (x8_1 + 2)) : Int).toNat).drop (x8_1 : Int).toNat).length = ((wrap64 (x8_1 + 2)).toNat - x8_1.toNat) from (by rw [List.length_drop, List.length_take]; have h_ : ((wrap64 (x8_1 + 2)) : Int) ≤ (l2.length : Int) := of_decide_eq_true (by first | (with_reducible assumption) | assumption); omega)] <;> rfl) | (rw [show ((l1.take ((wrap64 (x8_1 + 2)) : Int).toNat).drop (x8_1 : Int).toNat).length = ((wrap64 (x8_1 + 2)).toNat - x8_1.toNat) from (by rw [List.length_drop, List.length_take]; have h_ : ((wrap64 (x8_1 + 2)) : Int) ≤ (l1.length : Int) := of_decide_eq_true (by first | (with_reducible assumption) | assumption); omega)] <;> rfl) | (rw [show ((l2.take ((wrap64 (x8_1 + 2)) : Int).toNat).drop (x8_1 : Int).toNat).length = ((wrap64 (x8_1 + 2)).toNat - x8_1.toNat) from (by rw [List.length_drop, List.length_take]; have h_ : ((wrap64 (x8_1 + 2)) : Int) ≤ (l2.length : Int) := of_decide_eq_true (by first | (with_reducible assumption) | assumption); omega)] <;> rfl) | rfl | (simp only [List.length_drop, List.length_take]; rfl)) ?_
              with_reducible refine (slices_Equal_int_int.calls k1 _ _ ((l1.take ((wrap64 (x8_1 + 2)) : Int).toNat).drop (x8_1 : Int).toNat) _ _ ((l2.take ((wrap64 (x8_1 + 2)) : Int).toNat).drop (x8_1 : Int).toNat) true _ ?side1 ?side2 ?side3 ?side4 A28.out).mono ?_
              (case side1 => repeat (first | exact (Kd.C_below HR662.out HB.out) | (with_reducible refine Kd.C_alloc ?_ _) | (with_reducible refine Kd.C_drewN ?_ _) | (with_reducible refine Kd.C_drew ?_)))
              (case side2 => exact HC662.out)
              (case side3 => repeat (first | exact (Kd.C_below HR663.out HB.out) | (with_reducible refine Kd.C_alloc ?_ _) | (with_reducible refine Kd.C_drewN ?_ _) | (with_reducible refine Kd.C_drew ?_)))
              (case side4 => exact HC663.out)
              rintro e w' ⟨rfl, ⟨nd, rfl⟩⟩
              refine ⟨_, rfl, ?_⟩
              refine hK.out _ _ trivial (fun hHeld => ?_)
              clear hK K
              refine norm_ (a' := ?_) ?_ ?_
              rotate_left
              ·
               show Act.put _ (some 50) _ = _
               simp only [Act.put, List.setIfInBounds_toArray, List.set_cons_zero, List.set_cons_succ, i64_w, i32_w]
               rfl
              refine pure_ (i := 24) (N := some 51) (v := ?_) (a' := ?_) #[true, true, true, true, true, true, true, true, true, true, true, true, true, true, true, true, true, true, true, true, true, true, true, true, true] rfl rfl (any_of HT_.out (by kernel_rfl)) (fun _ _ _ h => h) (Or.inl ⟨by rfl, ?_⟩) ?_ ?_
              rotate_left
              ·
               intro w'
               go_simp
               with_reducible rfl
              rotate_left
              ·
               simp only [Act.put, List.setIfInBounds_toArray, List.set_cons_zero, List.set_cons_succ, i64_w, i32_w]
               rfl
              refine done_ (done_of HT_.out (by kernel_rfl)) ?_
              try go_wp2
              go_roundg k1
              case measure => have := HK1.out; omega
              case rel => exact ⟨(wrap64 (x8_1 + 2)), (by first | rfl | (simp; done) | (simp [*]; done)), H', ⟨by have := HK1.out; omega⟩, ⟨by (with_reducible repeat (first | refine blk_drewN ?_ _ | refine blk_drew ?_ | refine blk_alloc ?_ _)); exact BK657.out⟩, ⟨by (with_reducible repeat (first | refine blk_drewN ?_ _ | refine blk_drew ?_ | refine blk_alloc ?_ _)); exact BK658.out⟩, ⟨by repeat (first | (with_reducible first | exact HB.out | apply below_alloc | apply pw_below_drewN | apply below_drew1 | refine below_set ?_ GE657.out | refine below_set ?_ GE658.out) | exact HB.out)⟩⟩
             ·
              replace c29 := Bool.eq_false_iff.mpr c29
              subst c29
              have H1 : (selection_Between.j1 k1 l1 l2 x8_1) = some (r1, r2, r3, r4) := by rw [if_neg (show ¬ (false = true) by decide)] at H; exact H
              clear H
              have H := H1
              clear H1
              have H' := Aside0.mk H
              clear H
              try go_wp2
              have n0_ := Aside0.mk (blk_drew BK657.out)
              have n1_ := Aside0.mk (blk_drew BK658.out)
              have n2_ := Aside0.mk (below_drew1 HB.out)
              clear BK657
              clear BK658
              clear HB
              have BK657 := n0_
              have BK658 := n1_
              have HB := n2_
              clear n0_ n1_ n2_
              obtain ⟨i034, hi034, _, hsz34, _⟩ := info_parts info3
              obtain ⟨A34, hcut34, hA34, hC34⟩ := print_mid_of (P := Tryd.prog) (Value.int .i64) 0 26 3 .i64 .i64 Tryd.underlying26 hi034 hsz34 A1 c1 l1 x8_1 (wrap64 (x8_1 + 2)) (of_decide_eq_true (by first | (with_reducible assumption) | assumption)) (by first | omega | exact of_decide_eq_true (by first | (with_reducible assumption) | assumption)) (of_decide_eq_true (by first | (with_reducible assumption) | assumption)) HC1.out
              have HR662 := Aside0.mk (Kd.C_of_reads (h1 := fun _ => rfl) (hA34 _ (Kd.reads_of_C HR1.out)))
              have HC662 := Aside0.mk hC34
              clear hA34 hC34 hi034 hsz34
              obtain ⟨i035, hi035, _, hsz35, _⟩ := info_parts info3
              obtain ⟨A35, hcut35, hA35, hC35⟩ := print_mid_of (P := Tryd.prog) (Value.int .i64) 0 26 3 .i64 .i64 Tryd.underlying26 hi035 hsz35 A2 c2 l2 x8_1 (wrap64 (x8_1 + 2)) (of_decide_eq_true (by first | (with_reducible assumption) | assumption)) (by first | omega | exact of_decide_eq_true (by first | (with_reducible assumption) | assumption)) (of_decide_eq_true (by first | (with_reducible assumption) | assumption)) HC2.out
              have HR663 := Aside0.mk (Kd.C_of_reads (h1 := fun _ => rfl) (hA35 _ (Kd.reads_of_C HR2.out)))
              have HC663 := Aside0.mk hC35
              clear hA35 hC35 hi035 hsz35
              refine start_ (n := 25) (S := fun w' => True) (ds := []) #[false, false, false, false, false, false, false, false, false, false, false, false, false, false, false, false, false, false, false, false, false, false, false, false, false] (by kernel_rfl) rfl rfl trivial (fun hHeld => ?_); refine with_tabW selection_Between.tab6 selection_Between.bits6 (fun HT_ HW_ => ?_)
              generalize wr.drew = w33 at BK657 BK658 HB HR662 HR663 hHeld ⊢
              refine pure_ (i := 0) (N := some 27) (v := ?_) (a' := ?_) #[true, false, false, false, false, false, false, false, false, false, false, false, false, false, false, false, false, false, false, false, false, false, false, false, false] rfl rfl (any_of HT_.out (by kernel_rfl)) (fun _ _ _ h => h) (Or.inl ⟨by rfl, ?_⟩) ?_ ?_
              rotate_left
              ·
               intro w'
               go_simp
               with_reducible rfl
              rotate_left
              ·
               simp only [Act.put, List.setIfInBounds_toArray, List.set_cons_zero, List.set_cons_succ, i64_w, i32_w]
               rfl
              refine pure_ (i := 1) (N := some 28) (v := ?_) (a' := ?_) #[true, true, false, false, false, false, false, false, false, false, false, false, false, false, false, false, false, false, false, false, false, false, false, false, false] rfl rfl (any_of HT_.out (by kernel_rfl)) (fun _ _ _ h => h) (Or.inl ⟨by rfl, ?_⟩) ?_ ?_
              rotate_left
              ·
               intro w'
               go_simp
               with_reducible rfl
              rotate_left
              ·
               simp only [Act.put, List.setIfInBounds_toArray, List.set_cons_zero, List.set_cons_succ, i64_w, i32_w]
               rfl
              refine pure_ (i := 2) (N := some 29) (v := ?_) (a' := ?_) #[true, true, true, false, false, false, false, false, false, false, false, false, false, false, false, false, false, false, false, false, false, false, false, false, false] rfl rfl (any_of HT_.out (by kernel_rfl)) (fun _ _ _ h => h) (Or.inl ⟨by rfl, ?_⟩) ?_ ?_
              rotate_left
              ·
               intro w'
               go_simp
               with_reducible rfl
              rotate_left
              ·
               simp only [Act.put, List.setIfInBounds_toArray, List.set_cons_zero, List.set_cons_succ, i64_w, i32_w]
               rfl
              refine pure_ (i := 3) (N := some 30) (v := ?_) (a' := ?_) #[true, true, true, true, false, false, false, false, false, false, false, false, false, false, false, false, false, false, false, false, false, false, false, false, false] rfl rfl (any_of HT_.out (by kernel_rfl)) (fun _ _ _ h => h) (Or.inl ⟨by rfl, ?_⟩) ?_ ?_
              rotate_left
              ·
               intro w'
               go_simp
               with_reducible rfl
              rotate_left
              ·
               simp only [Act.put, List.setIfInBounds_toArray, List.set_cons_zero, List.set_cons_succ, i64_w, i32_w]
               rfl
              refine pure_ (i := 4) (N := some 31) (v := ?_) (a' := ?_) #[true, true, true, true, true, false, false, false, false, false, false, false, false, false, false, false, false, false, false, false, false, false, false, false, false] rfl rfl (any_of HT_.out (by kernel_rfl)) (fun _ _ _ h => h) (Or.inl ⟨by rfl, ?_⟩) ?_ ?_
              rotate_left
              ·
               intro w'
               go_simp
               with_reducible rfl
              rotate_left
              ·
               simp only [Act.put, List.setIfInBounds_toArray, List.set_cons_zero, List.set_cons_succ, i64_w, i32_w]
               rfl
              refine pure_ (i := 5) (N := some 32) (v := ?_) (a' := ?_) #[true, true, true, true, true, true, false, false, false, false, false, false, false, false, false, false, false, false, false, false, false, false, false, false, false] rfl rfl (any_of HT_.out (by kernel_rfl)) (fun _ _ _ h => h) (Or.inl ⟨by rfl, ?_⟩) ?_ ?_
              rotate_left
              ·
               intro w'
               go_simp
               with_reducible rfl
              rotate_left
              ·
               simp only [Act.put, List.setIfInBounds_toArray, List.set_cons_zero, List.set_cons_succ, i64_w, i32_w]
               rfl
              refine pure_ (i := 6) (N := some 33) (v := ?_) (a' := ?_) #[true, true, true, true, true, true, true, false, false, false, false, false, false, false, false, false, false, false, false, false, false, false, false, false, false] rfl rfl (any_of HT_.out (by kernel_rfl)) (fun _ _ _ h => h) (Or.inl ⟨by rfl, ?_⟩) ?_ ?_
              rotate_left
              ·
               intro w'
               go_simp
               with_reducible rfl
              rotate_left
              ·
               simp only [Act.put, List.setIfInBounds_toArray, List.set_cons_zero, List.set_cons_succ, i64_w, i32_w]
               rfl
              refine pure_ (i := 7) (N := some 34) (v := ?_) (a' := ?_) #[true, true, true, true, true, true, true, true, false, false, false, false, false, false, false, false, false, false, false, false, false, false, false, false, false] rfl rfl (any_of HT_.out (by kernel_rfl)) (fun _ _ _ h => h) (Or.inl ⟨by rfl, ?_⟩) ?_ ?_
              rotate_left
              ·
               intro w'
               go_simp
               with_reducible rfl
              rotate_left
              ·
               simp only [Act.put, List.setIfInBounds_toArray, List.set_cons_zero, List.set_cons_succ, i64_w, i32_w]
               rfl
              refine pure_ (i := 8) (N := some 35) (v := ?_) (a' := ?_) #[true, true, true, true, true, true, true, true, true, false, false, false, false, false, false, false, false, false, false, false, false, false, false, false, false] rfl rfl (any_of HT_.out (by kernel_rfl)) (fun _ _ _ h => h) (Or.inl ⟨by rfl, ?_⟩) ?_ ?_
              rotate_left
              ·
               intro w'
               go_simp
               with_reducible rfl
              rotate_left
              ·
               simp only [Act.put, List.setIfInBounds_toArray, List.set_cons_zero, List.set_cons_succ, i64_w, i32_w]
               rfl
              refine pure_ (i := 9) (N := some 36) (v := ?_) (a' := ?_) #[true, true, true, true, true, true, true, true, true, true, false, false, false, false, false, false, false, false, false, false, false, false, false, false, false] rfl rfl (any_of HT_.out (by kernel_rfl)) (fun _ _ _ h => h) (Or.inl ⟨by rfl, ?_⟩) ?_ ?_
              rotate_left
              ·
               intro w'
               go_simp
               with_reducible rfl
              rotate_left
              ·
               simp only [Act.put, List.setIfInBounds_toArray, List.set_cons_zero, List.set_cons_succ, i64_w, i32_w]
               rfl
              refine pure_ (i := 10) (N := some 37) (v := ?_) (a' := ?_) #[true, true, true, true, true, true, true, true, true, true, true, false, false, false, false, false, false, false, false, false, false, false, false, false, false] rfl rfl (any_of HT_.out (by kernel_rfl)) (fun _ _ _ h => h) (Or.inl ⟨by rfl, ?_⟩) ?_ ?_
              rotate_left
              ·
               intro w'
               go_simp
               with_reducible rfl
              rotate_left
              ·
               simp only [Act.put, List.setIfInBounds_toArray, List.set_cons_zero, List.set_cons_succ, i64_w, i32_w]
               rfl
              refine pure_ (i := 11) (N := some 38) (v := ?_) (a' := ?_) #[true, true, true, true, true, true, true, true, true, true, true, true, false, false, false, false, false, false, false, false, false, false, false, false, false] rfl rfl (any_of HT_.out (by kernel_rfl)) (fun _ _ _ h => h) (Or.inl ⟨by rfl, ?_⟩) ?_ ?_
              rotate_left
              ·
               intro w'
               go_simp
               with_reducible rfl
              rotate_left
              ·
               simp only [Act.put, List.setIfInBounds_toArray, List.set_cons_zero, List.set_cons_succ, i64_w, i32_w]
               rfl
              refine pure_ (i := 12) (N := some 39) (v := ?_) (a' := ?_) #[true, true, true, true, true, true, true, true, true, true, true, true, true, false, false, false, false, false, false, false, false, false, false, false, false] rfl rfl (any_of HT_.out (by kernel_rfl)) (fun _ _ _ h => h) (Or.inl ⟨by rfl, ?_⟩) ?_ ?_
              rotate_left
              ·
               intro w'
               go_simp
               with_reducible rfl
              rotate_left
              ·
               simp only [Act.put, List.setIfInBounds_toArray, List.set_cons_zero, List.set_cons_succ, i64_w, i32_w]
               rfl
              refine pure_ (i := 13) (N := some 40) (v := ?_) (a' := ?_) #[true, true, true, true, true, true, true, true, true, true, true, true, true, true, false, false, false, false, false, false, false, false, false, false, false] rfl rfl (any_of HT_.out (by kernel_rfl)) (fun _ _ _ h => h) (Or.inl ⟨by rfl, ?_⟩) ?_ ?_
              rotate_left
              ·
               intro w'
               go_simp
               with_reducible rfl
              rotate_left
              ·
               simp only [Act.put, List.setIfInBounds_toArray, List.set_cons_zero, List.set_cons_succ, i64_w, i32_w]
               rfl
              refine pure_ (i := 14) (N := some 41) (v := ?_) (a' := ?_) #[true, true, true, true, true, true, true, true, true, true, true, true, true, true, true, false, false, false, false, false, false, false, false, false, false] rfl rfl (any_of HT_.out (by kernel_rfl)) (fun _ _ _ h => h) (Or.inl ⟨by rfl, ?_⟩) ?_ ?_
              rotate_left
              ·
               intro w'
               go_simp
               with_reducible rfl
              rotate_left
              ·
               simp only [Act.put, List.setIfInBounds_toArray, List.set_cons_zero, List.set_cons_succ, i64_w, i32_w]
               rfl
              refine pure_ (i := 15) (N := some 42) (v := ?_) (a' := ?_) #[true, true, true, true, true, true, true, true, true, true, true, true, true, true, true, true, false, false, false, false, false, false, false, false, false] rfl rfl (any_of HT_.out (by kernel_rfl)) (fun _ _ _ h => h) (Or.inl ⟨by rfl, ?_⟩) ?_ ?_
              rotate_left
              ·
               intro w'
               go_simp
               with_reducible rfl
              rotate_left
              ·
               simp only [Act.put, List.setIfInBounds_toArray, List.set_cons_zero, List.set_cons_succ, i64_w, i32_w]
               rfl
              refine pure_ (i := 16) (N := some 43) (v := ?_) (a' := ?_) #[true, true, true, true, true, true, true, true, true, true, true, true, true, true, true, true, true, false, false, false, false, false, false, false, false] rfl rfl (any_of HT_.out (by kernel_rfl)) (fun _ _ _ h => h) (Or.inl ⟨by rfl, ?_⟩) ?_ ?_
              rotate_left
              ·
               intro w'
               go_simp
               with_reducible rfl
              rotate_left
              ·
               simp only [Act.put, List.setIfInBounds_toArray, List.set_cons_zero, List.set_cons_succ, i64_w, i32_w]
               rfl
              refine pure_ (i := 17) (N := some 44) (v := ?_) (a' := ?_) #[true, true, true, true, true, true, true, true, true, true, true, true, true, true, true, true, true, true, false, false, false, false, false, false, false] rfl rfl (any_of HT_.out (by kernel_rfl)) (fun _ _ _ h => h) (Or.inl ⟨by rfl, ?_⟩) ?_ ?_
              rotate_left
              ·
               intro w'
               go_simp
               with_reducible rfl
              rotate_left
              ·
               simp only [Act.put, List.setIfInBounds_toArray, List.set_cons_zero, List.set_cons_succ, i64_w, i32_w]
               rfl
              refine pure_ (i := 18) (N := some 45) (v := ?_) (a' := ?_) #[true, true, true, true, true, true, true, true, true, true, true, true, true, true, true, true, true, true, true, false, false, false, false, false, false] rfl rfl (any_of HT_.out (by kernel_rfl)) (fun _ _ _ h => h) (Or.inl ⟨by rfl, ?_⟩) ?_ ?_
              rotate_left
              ·
               intro w'
               go_simp
               with_reducible rfl
              rotate_left
              ·
               simp only [Act.put, List.setIfInBounds_toArray, List.set_cons_zero, List.set_cons_succ, i64_w, i32_w]
               rfl
              refine pure_ (i := 19) (N := some 46) (v := ?_) (a' := ?_) #[true, true, true, true, true, true, true, true, true, true, true, true, true, true, true, true, true, true, true, true, false, false, false, false, false] rfl rfl (any_of HT_.out (by kernel_rfl)) (fun _ _ _ h => h) (Or.inl ⟨by rfl, ?_⟩) ?_ ?_
              rotate_left
              ·
               intro w'
               go_simp
               with_reducible rfl
              rotate_left
              ·
               simp only [Act.put, List.setIfInBounds_toArray, List.set_cons_zero, List.set_cons_succ, i64_w, i32_w]
               rfl
              refine pure_ (i := 20) (N := some 47) (v := ?_) (a' := ?_) #[true, true, true, true, true, true, true, true, true, true, true, true, true, true, true, true, true, true, true, true, true, false, false, false, false] rfl rfl (any_of HT_.out (by kernel_rfl)) (fun _ _ _ h => h) (Or.inl ⟨by rfl, ?_⟩) ?_ ?_
              rotate_left
              ·
               intro w'
               go_simp
               with_reducible rfl
              rotate_left
              ·
               simp only [Act.put, List.setIfInBounds_toArray, List.set_cons_zero, List.set_cons_succ, i64_w, i32_w]
               rfl
              refine pure_ (i := 21) (N := some 48) (v := ?_) (a' := ?_) #[true, true, true, true, true, true, true, true, true, true, true, true, true, true, true, true, true, true, true, true, true, true, false, false, false] rfl rfl (any_of HT_.out (by kernel_rfl)) (fun _ _ _ h => h) (Or.inl ⟨by rfl, ?_⟩) ?_ ?_
              rotate_left
              ·
               intro w'
               go_simp
               with_reducible rfl
              rotate_left
              ·
               simp only [Act.put, List.setIfInBounds_toArray, List.set_cons_zero, List.set_cons_succ, i64_w, i32_w]
               rfl
              refine pure_ (i := 22) (N := some 49) (v := ?_) (a' := ?_) #[true, true, true, true, true, true, true, true, true, true, true, true, true, true, true, true, true, true, true, true, true, true, true, false, false] rfl rfl (any_of HT_.out (by kernel_rfl)) (fun _ _ _ h => h) (Or.inl ⟨by rfl, ?_⟩) ?_ ?_
              rotate_left
              ·
               intro w'
               go_simp
               with_reducible rfl
              rotate_left
              ·
               simp only [Act.put, List.setIfInBounds_toArray, List.set_cons_zero, List.set_cons_succ, i64_w, i32_w]
               rfl
              refine one_ (i := 23) (N := some 50) #[true, true, true, true, true, true, true, true, true, true, true, true, true, true, true, true, true, true, true, true, true, true, true, true, false] rfl rfl (one_of HT_.out (by kernel_rfl)) (by decide) (fun K hK => ?_)
              refine goes_ Tryd.func78 (by kernel_rfl) rfl #[.slice A34 ((l1.take ((wrap64 (x8_1 + 2)) : Int).toNat).drop (x8_1 : Int).toNat).length (c1 - x8_1.toNat), .slice A35 ((l2.take ((wrap64 (x8_1 + 2)) : Int).toNat).drop (x8_1 : Int).toNat).length (c2 - x8_1.toNat)] (by rfl) rfl rfl (by (try simp only [List.map_toArray, List.map_cons, List.map_nil]); first | done | (rw [show ((l1.take ((wrap64 (x8_1 + 2)) : Int).toNat).drop (x8_1 : Int).toNat).length = ((wrap64 (x8_1 + 2)).toNat - x8_1.toNat) from (by rw [List.length_drop, List.length_take]; have h_ : ((wrap64 (x8_1 + 2)) : Int) ≤ (l1.length : Int) := of_decide_eq_true (by first | (with_reducible assumption) | assumption); omega), show ((l2.take ((wrap64 (x8_1 + 2)) : Int).toNat).drop (x8_1 : Int).toNat).length = ((wrap64 (x8_1 + 2)).toNat - x8_1.toNat) from (by rw [List.length_drop, List.length_take]; have h_ : ((wrap64 (x8_1 + 2)) : Int) ≤ (l2.length : Int) := of_decide_eq_true (by first | (with_reducible assumption) | assumption); omega)] <;> rfl) | (rw [show ((l1.take ((wrap64 (x8_1 + 2)) : Int).toNat).drop (x8_1 : Int).toNat).length = ((wrap64 (x8_1 + 2)).toNat - x8_1.toNat) from (by rw [List.length_drop, List.length_take]; have h_ : ((wrap64 (x8_1 + 2)) : Int) ≤ (l1.length : Int) := of_decide_eq_true (by first | (with_reducible assumption) | assumption); omega)] <;> rfl) | (rw [show ((l2.take ((wrap64 (x8_1 + 2)) : Int).toNat).drop (x8_1 : Int).toNat).length = ((wrap64 (x8_1 + 2)).toNat - x8_1.toNat) from (by rw [List.length_drop, List.length_take]; have h_ : ((wrap64 (x8_1 + 2)) : Int) ≤ (l2.length : Int) := of_decide_eq_true (by first | (with_reducible assumption) | assumption); omega)] <;> rfl) | rfl | (simp only [List.length_drop, List.length_take]; rfl)) ?_
              with_reducible refine (slices_Equal_int_int.calls k1 _ _ ((l1.take ((wrap64 (x8_1 + 2)) : Int).toNat).drop (x8_1 : Int).toNat) _ _ ((l2.take ((wrap64 (x8_1 + 2)) : Int).toNat).drop (x8_1 : Int).toNat) false _ ?side1 ?side2 ?side3 ?side4 A28.out).mono ?_
              (case side1 => repeat (first | exact (Kd.C_below HR662.out HB.out) | (with_reducible refine Kd.C_alloc ?_ _) | (with_reducible refine Kd.C_drewN ?_ _) | (with_reducible refine Kd.C_drew ?_)))
              (case side2 => exact HC662.out)
              (case side3 => repeat (first | exact (Kd.C_below HR663.out HB.out) | (with_reducible refine Kd.C_alloc ?_ _) | (with_reducible refine Kd.C_drewN ?_ _) | (with_reducible refine Kd.C_drew ?_)))
              (case side4 => exact HC663.out)
              rintro e w' ⟨rfl, ⟨nd, rfl⟩⟩
              refine ⟨_, rfl, ?_⟩
              refine hK.out _ _ trivial (fun hHeld => ?_)
              clear hK K
              refine norm_ (a' := ?_) ?_ ?_
              rotate_left
              ·
               show Act.put _ (some 50) _ = _
               simp only [Act.put, List.setIfInBounds_toArray, List.set_cons_zero, List.set_cons_succ, i64_w, i32_w]
               rfl
              refine pure_ (i := 24) (N := some 51) (v := ?_) (a' := ?_) #[true, true, true, true, true, true, true, true, true, true, true, true, true, true, true, true, true, true, true, true, true, true, true, true, true] rfl rfl (any_of HT_.out (by kernel_rfl)) (fun _ _ _ h => h) (Or.inl ⟨by rfl, ?_⟩) ?_ ?_
              rotate_left
              ·
               intro w'
               go_simp
               with_reducible rfl
              rotate_left
              ·
               simp only [Act.put, List.setIfInBounds_toArray, List.set_cons_zero, List.set_cons_succ, i64_w, i32_w]
               rfl
              refine done_ (done_of HT_.out (by kernel_rfl)) ?_
              try go_wp2
              go_meet
              case rel => exact ⟨_, (x8_1), (by first | rfl | (simp; done) | (simp [*]; done)), H', ⟨by have := HK1.out; first | omega | exact Nat.le_refl _⟩, ⟨by (with_reducible repeat (first | refine blk_drewN ?_ _ | refine blk_drew ?_ | refine blk_alloc ?_ _)); exact BK657.out⟩, ⟨by (with_reducible repeat (first | refine blk_drewN ?_ _ | refine blk_drew ?_ | refine blk_alloc ?_ _)); exact BK658.out⟩, ⟨by repeat (first | (with_reducible first | exact HB.out | apply below_alloc | apply pw_below_drewN | apply below_drew1 | refine below_set ?_ GE657.out | refine below_set ?_ GE658.out) | exact HB.out)⟩⟩
            ·
             rw [if_neg c27] at H
             exact absurd H (by simp)
           ·
            rw [if_neg c24] at H
            exact absurd H (by simp)
          ·
           rw [if_neg c23] at H
           exact absurd H (by simp)
         ·
          rw [if_neg c22] at H
          exact absurd H (by simp)
        ·
         rw [if_neg c21] at H
         have c21b0 : decide ((wrap64 (x8_1 + 2)) < (l2.length : Int)) = false := decide_eq_false c21
         clear c21
         have H' := Aside0.mk H
         clear H
         try go_wp2
         have n0_ := Aside0.mk (blk_drew BK657.out)
         have n1_ := Aside0.mk (blk_drew BK658.out)
         have n2_ := Aside0.mk (below_drew1 HB.out)
         clear BK657
         clear BK658
         clear HB
         have BK657 := n0_
         have BK658 := n1_
         have HB := n2_
         clear n0_ n1_ n2_
         refine start_ (n := 25) (S := fun w' => True) (ds := []) #[false, false, false, false, false, false, false, false, false, false, false, false, false, false, false, false, false, false, false, false, false, false, false, false, false] (by kernel_rfl) rfl rfl trivial (fun hHeld => ?_); refine with_tabW selection_Between.tab6 selection_Between.bits6 (fun HT_ HW_ => ?_)
         generalize wr.drew = w36 at BK657 BK658 HB hHeld ⊢
         refine pure_ (i := 0) (N := some 27) (v := ?_) (a' := ?_) #[true, false, false, false, false, false, false, false, false, false, false, false, false, false, false, false, false, false, false, false, false, false, false, false, false] rfl rfl (any_of HT_.out (by kernel_rfl)) (fun _ _ _ h => h) (Or.inl ⟨by rfl, ?_⟩) ?_ ?_
         rotate_left
         ·
          intro w'
          go_simp
          with_reducible rfl
         rotate_left
         ·
          simp only [Act.put, List.setIfInBounds_toArray, List.set_cons_zero, List.set_cons_succ, i64_w, i32_w]
          rfl
         refine pure_ (i := 1) (N := some 28) (v := ?_) (a' := ?_) #[true, true, false, false, false, false, false, false, false, false, false, false, false, false, false, false, false, false, false, false, false, false, false, false, false] rfl rfl (any_of HT_.out (by kernel_rfl)) (fun _ _ _ h => h) (Or.inl ⟨by rfl, ?_⟩) ?_ ?_
         rotate_left
         ·
          intro w'
          go_simp
          with_reducible rfl
         rotate_left
         ·
          simp only [Act.put, List.setIfInBounds_toArray, List.set_cons_zero, List.set_cons_succ, i64_w, i32_w]
          rfl
         refine pure_ (i := 2) (N := some 29) (v := ?_) (a' := ?_) #[true, true, true, false, false, false, false, false, false, false, false, false, false, false, false, false, false, false, false, false, false, false, false, false, false] rfl rfl (any_of HT_.out (by kernel_rfl)) (fun _ _ _ h => h) (Or.inl ⟨by rfl, ?_⟩) ?_ ?_
         rotate_left
         ·
          intro w'
          go_simp
          with_reducible rfl
         rotate_left
         ·
          simp only [Act.put, List.setIfInBounds_toArray, List.set_cons_zero, List.set_cons_succ, i64_w, i32_w]
          rfl
         refine pure_ (i := 3) (N := some 30) (v := ?_) (a' := ?_) #[true, true, true, true, false, false, false, false, false, false, false, false, false, false, false, false, false, false, false, false, false, false, false, false, false] rfl rfl (any_of HT_.out (by kernel_rfl)) (fun _ _ _ h => h) (Or.inl ⟨by rfl, ?_⟩) ?_ ?_
         rotate_left
         ·
          intro w'
          go_simp
          with_reducible rfl
         rotate_left
         ·
          simp only [Act.put, List.setIfInBounds_toArray, List.set_cons_zero, List.set_cons_succ, i64_w, i32_w]
          rfl
         refine pure_ (i := 4) (N := some 31) (v := ?_) (a' := ?_) #[true, true, true, true, true, false, false, false, false, false, false, false, false, false, false, false, false, false, false, false, false, false, false, false, false] rfl rfl (any_of HT_.out (by kernel_rfl)) (fun _ _ _ h => h) (Or.inl ⟨by rfl, ?_⟩) ?_ ?_
         rotate_left
         ·
          intro w'
          go_simp
          with_reducible rfl
         rotate_left
         ·
          simp only [Act.put, List.setIfInBounds_toArray, List.set_cons_zero, List.set_cons_succ, i64_w, i32_w]
          rfl
         refine pure_ (i := 5) (N := some 32) (v := ?_) (a' := ?_) #[true, true, true, true, true, true, false, false, false, false, false, false, false, false, false, false, false, false, false, false, false, false, false, false, false] rfl rfl (any_of HT_.out (by kernel_rfl)) (fun _ _ _ h => h) (Or.inl ⟨by rfl, ?_⟩) ?_ ?_
         rotate_left
         ·
          intro w'
          go_simp
          with_reducible rfl
         rotate_left
         ·
          simp only [Act.put, List.setIfInBounds_toArray, List.set_cons_zero, List.set_cons_succ, i64_w, i32_w]
          rfl
         refine pure_ (i := 6) (N := some 33) (v := ?_) (a' := ?_) #[true, true, true, true, true, true, true, false, false, false, false, false, false, false, false, false, false, false, false, false, false, false, false, false, false] rfl rfl (any_of HT_.out (by kernel_rfl)) (fun _ _ _ h => h) (Or.inl ⟨by rfl, ?_⟩) ?_ ?_
         rotate_left
         ·
          intro w'
          go_simp
          with_reducible rfl
         rotate_left
         ·
          simp only [Act.put, List.setIfInBounds_toArray, List.set_cons_zero, List.set_cons_succ, i64_w, i32_w]
          rfl
         refine pure_ (i := 7) (N := some 34) (v := ?_) (a' := ?_) #[true, true, true, true, true, true, true, true, false, false, false, false, false, false, false, false, false, false, false, false, false, false, false, false, false] rfl rfl (any_of HT_.out (by kernel_rfl)) (fun _ _ _ h => h) (Or.inl ⟨by rfl, ?_⟩) ?_ ?_
         rotate_left
         ·
          intro w'
          go_simp
          with_reducible rfl
         rotate_left
         ·
          simp only [Act.put, List.setIfInBounds_toArray, List.set_cons_zero, List.set_cons_succ, i64_w, i32_w]
          rfl
         refine pure_ (i := 8) (N := some 35) (v := ?_) (a' := ?_) #[true, true, true, true, true, true, true, true, true, false, false, false, false, false, false, false, false, false, false, false, false, false, false, false, false] rfl rfl (any_of HT_.out (by kernel_rfl)) (fun _ _ _ h => h) (Or.inl ⟨by rfl, ?_⟩) ?_ ?_
         rotate_left
         ·
          intro w'
          go_simp
          with_reducible rfl
         rotate_left
         ·
          simp only [Act.put, List.setIfInBounds_toArray, List.set_cons_zero, List.set_cons_succ, i64_w, i32_w]
          rfl
         refine pure_ (i := 9) (N := some 36) (v := ?_) (a' := ?_) #[true, true, true, true, true, true, true, true, true, true, false, false, false, false, false, false, false, false, false, false, false, false, false, false, false] rfl rfl (any_of HT_.out (by kernel_rfl)) (fun _ _ _ h => h) (Or.inl ⟨by rfl, ?_⟩) ?_ ?_
         rotate_left
         ·
          intro w'
          go_simp
          with_reducible rfl
         rotate_left
         ·
          simp only [Act.put, List.setIfInBounds_toArray, List.set_cons_zero, List.set_cons_succ, i64_w, i32_w]
          rfl
         refine pure_ (i := 10) (N := some 37) (v := ?_) (a' := ?_) #[true, true, true, true, true, true, true, true, true, true, true, false, false, false, false, false, false, false, false, false, false, false, false, false, false] rfl rfl (any_of HT_.out (by kernel_rfl)) (fun _ _ _ h => h) (Or.inl ⟨by rfl, ?_⟩) ?_ ?_
         rotate_left
         ·
          intro w'
          go_simp
          with_reducible rfl
         rotate_left
         ·
          simp only [Act.put, List.setIfInBounds_toArray, List.set_cons_zero, List.set_cons_succ, i64_w, i32_w]
          rfl
         refine pure_ (i := 11) (N := some 38) (v := ?_) (a' := ?_) #[true, true, true, true, true, true, true, true, true, true, true, true, false, false, false, false, false, false, false, false, false, false, false, false, false] rfl rfl (any_of HT_.out (by kernel_rfl)) (fun _ _ _ h => h) (Or.inl ⟨by rfl, ?_⟩) ?_ ?_
         rotate_left
         ·
          intro w'
          go_simp
          with_reducible rfl
         rotate_left
         ·
          simp only [Act.put, List.setIfInBounds_toArray, List.set_cons_zero, List.set_cons_succ, i64_w, i32_w]
          rfl
         refine pure_ (i := 12) (N := some 39) (v := ?_) (a' := ?_) #[true, true, true, true, true, true, true, true, true, true, true, true, true, false, false, false, false, false, false, false, false, false, false, false, false] rfl rfl (any_of HT_.out (by kernel_rfl)) (fun _ _ _ h => h) (Or.inl ⟨by rfl, ?_⟩) ?_ ?_
         rotate_left
         ·
          intro w'
          go_simp
          with_reducible rfl
         rotate_left
         ·
          simp only [Act.put, List.setIfInBounds_toArray, List.set_cons_zero, List.set_cons_succ, i64_w, i32_w]
          rfl
         refine pure_ (i := 13) (N := some 40) (v := undef) (a' := ?_) #[true, true, true, true, true, true, true, true, true, true, true, true, true, true, false, false, false, false, false, false, false, false, false, false, false] rfl rfl (any_of HT_.out (by kernel_rfl)) (fun _ _ _ h => h) (Or.inr ⟨by rfl, rfl⟩) ?_ ?_
         rotate_left
         ·
          simp only [Act.put, List.setIfInBounds_toArray, List.set_cons_zero, List.set_cons_succ, i64_w, i32_w]
          rfl
         refine pure_ (i := 14) (N := some 41) (v := undef) (a' := ?_) #[true, true, true, true, true, true, true, true, true, true, true, true, true, true, true, false, false, false, false, false, false, false, false, false, false] rfl rfl (any_of HT_.out (by kernel_rfl)) (fun _ _ _ h => h) (Or.inr ⟨by rfl, rfl⟩) ?_ ?_
         rotate_left
         ·
          simp only [Act.put, List.setIfInBounds_toArray, List.set_cons_zero, List.set_cons_succ, i64_w, i32_w]
          rfl
         refine pure_ (i := 15) (N := some 42) (v := undef) (a' := ?_) #[true, true, true, true, true, true, true, true, true, true, true, true, true, true, true, true, false, false, false, false, false, false, false, false, false] rfl rfl (any_of HT_.out (by kernel_rfl)) (fun _ _ _ h => h) (Or.inr ⟨by rfl, rfl⟩) ?_ ?_
         rotate_left
         ·
          simp only [Act.put, List.setIfInBounds_toArray, List.set_cons_zero, List.set_cons_succ, i64_w, i32_w]
          rfl
         refine pure_ (i := 16) (N := some 43) (v := undef) (a' := ?_) #[true, true, true, true, true, true, true, true, true, true, true, true, true, true, true, true, true, false, false, false, false, false, false, false, false] rfl rfl (any_of HT_.out (by kernel_rfl)) (fun _ _ _ h => h) (Or.inr ⟨by rfl, rfl⟩) ?_ ?_
         rotate_left
         ·
          simp only [Act.put, List.setIfInBounds_toArray, List.set_cons_zero, List.set_cons_succ, i64_w, i32_w]
          rfl
         refine pure_ (i := 17) (N := some 44) (v := undef) (a' := ?_) #[true, true, true, true, true, true, true, true, true, true, true, true, true, true, true, true, true, true, false, false, false, false, false, false, false] rfl rfl (any_of HT_.out (by kernel_rfl)) (fun _ _ _ h => h) (Or.inr ⟨by rfl, rfl⟩) ?_ ?_
         rotate_left
         ·
          simp only [Act.put, List.setIfInBounds_toArray, List.set_cons_zero, List.set_cons_succ, i64_w, i32_w]
          rfl
         refine pure_ (i := 18) (N := some 45) (v := undef) (a' := ?_) #[true, true, true, true, true, true, true, true, true, true, true, true, true, true, true, true, true, true, true, false, false, false, false, false, false] rfl rfl (any_of HT_.out (by kernel_rfl)) (fun _ _ _ h => h) (Or.inr ⟨by rfl, rfl⟩) ?_ ?_
         rotate_left
         ·
          simp only [Act.put, List.setIfInBounds_toArray, List.set_cons_zero, List.set_cons_succ, i64_w, i32_w]
          rfl
         refine pure_ (i := 19) (N := some 46) (v := undef) (a' := ?_) #[true, true, true, true, true, true, true, true, true, true, true, true, true, true, true, true, true, true, true, true, false, false, false, false, false] rfl rfl (any_of HT_.out (by kernel_rfl)) (fun _ _ _ h => h) (Or.inr ⟨by rfl, rfl⟩) ?_ ?_
         rotate_left
         ·
          simp only [Act.put, List.setIfInBounds_toArray, List.set_cons_zero, List.set_cons_succ, i64_w, i32_w]
          rfl
         refine pure_ (i := 20) (N := some 47) (v := undef) (a' := ?_) #[true, true, true, true, true, true, true, true, true, true, true, true, true, true, true, true, true, true, true, true, true, false, false, false, false] rfl rfl (any_of HT_.out (by kernel_rfl)) (fun _ _ _ h => h) (Or.inr ⟨by rfl, rfl⟩) ?_ ?_
         rotate_left
         ·
          simp only [Act.put, List.setIfInBounds_toArray, List.set_cons_zero, List.set_cons_succ, i64_w, i32_w]
          rfl
         refine pure_ (i := 21) (N := some 48) (v := undef) (a' := ?_) #[true, true, true, true, true, true, true, true, true, true, true, true, true, true, true, true, true, true, true, true, true, true, false, false, false] rfl rfl (any_of HT_.out (by kernel_rfl)) (fun _ _ _ h => h) (Or.inr ⟨by rfl, rfl⟩) ?_ ?_
         rotate_left
         ·
          simp only [Act.put, List.setIfInBounds_toArray, List.set_cons_zero, List.set_cons_succ, i64_w, i32_w]
          rfl
         refine pure_ (i := 22) (N := some 49) (v := undef) (a' := ?_) #[true, true, true, true, true, true, true, true, true, true, true, true, true, true, true, true, true, true, true, true, true, true, true, false, false] rfl rfl (any_of HT_.out (by kernel_rfl)) (fun _ _ _ h => h) (Or.inr ⟨by rfl, rfl⟩) ?_ ?_
         rotate_left
         ·
          simp only [Act.put, List.setIfInBounds_toArray, List.set_cons_zero, List.set_cons_succ, i64_w, i32_w]
          rfl
         refine pure_ (i := 23) (N := some 50) (v := undef) (a' := ?_) #[true, true, true, true, true, true, true, true, true, true, true, true, true, true, true, true, true, true, true, true, true, true, true, true, false] rfl rfl (any_of HT_.out (by kernel_rfl)) (fun _ _ _ h => h) (Or.inr ⟨by rfl, rfl⟩) ?_ ?_
         rotate_left
         ·
          simp only [Act.put, List.setIfInBounds_toArray, List.set_cons_zero, List.set_cons_succ, i64_w, i32_w]
          rfl
         refine pure_ (i := 24) (N := some 51) (v := ?_) (a' := ?_) #[true, true, true, true, true, true, true, true, true, true, true, true, true, true, true, true, true, true, true, true, true, true, true, true, true] rfl rfl (any_of HT_.out (by kernel_rfl)) (fun _ _ _ h => h) (Or.inl ⟨by rfl, ?_⟩) ?_ ?_
         rotate_left
         ·
          intro w'
          go_simp
          with_reducible rfl
         rotate_left
         ·
          simp only [Act.put, List.setIfInBounds_toArray, List.set_cons_zero, List.set_cons_succ, i64_w, i32_w]
          rfl
         refine done_ (done_of HT_.out (by kernel_rfl)) ?_
         try go_wp2
         go_meet
         case rel => exact ⟨_, (x8_1), (by first | rfl | (simp; done) | (simp [*]; done)), H', ⟨by have := HK1.out; first | omega | exact Nat.le_refl _⟩, ⟨by (with_reducible repeat (first | refine blk_drewN ?_ _ | refine blk_drew ?_ | refine blk_alloc ?_ _)); exact BK657.out⟩, ⟨by (with_reducible repeat (first | refine blk_drewN ?_ _ | refine blk_drew ?_ | refine blk_alloc ?_ _)); exact BK658.out⟩, ⟨by repeat (first | (with_reducible first | exact HB.out | apply below_alloc | apply pw_below_drewN | apply below_drew1 | refine below_set ?_ GE657.out | refine below_set ?_ GE658.out) | exact HB.out)⟩⟩
       ·
        rw [if_neg c20] at H
        have c20b0 : decide ((wrap64 (x8_1 + 2)) < (l1.length : Int)) = false := decide_eq_false c20
        clear c20
        (first | rw [c20b0] | (simp only [i64_w, i32_w]; rw [c20b0]) | skip)
        have H' := Aside0.mk H
        clear H
        try go_wp2
        have n0_ := Aside0.mk (blk_drew BK657.out)
        have n1_ := Aside0.mk (blk_drew BK658.out)
        have n2_ := Aside0.mk (below_drew1 HB.out)
        clear BK657
        clear BK658
        clear HB
        have BK657 := n0_
        have BK658 := n1_
        have HB := n2_
        clear n0_ n1_ n2_
        refine start_ (n := 25) (S := fun w' => True) (ds := []) #[false, false, false, false, false, false, false, false, false, false, false, false, false, false, false, false, false, false, false, false, false, false, false, false, false] (by kernel_rfl) rfl rfl trivial (fun hHeld => ?_); refine with_tabW selection_Between.tab6 selection_Between.bits6 (fun HT_ HW_ => ?_)
        generalize wr.drew = w37 at BK657 BK658 HB hHeld ⊢
        refine pure_ (i := 0) (N := some 27) (v := ?_) (a' := ?_) #[true, false, false, false, false, false, false, false, false, false, false, false, false, false, false, false, false, false, false, false, false, false, false, false, false] rfl rfl (any_of HT_.out (by kernel_rfl)) (fun _ _ _ h => h) (Or.inl ⟨by rfl, ?_⟩) ?_ ?_
        rotate_left
        ·
         intro w'
         go_simp
         with_reducible rfl
        rotate_left
        ·
         simp only [Act.put, List.setIfInBounds_toArray, List.set_cons_zero, List.set_cons_succ, i64_w, i32_w]
         rfl
        refine pure_ (i := 1) (N := some 28) (v := ?_) (a' := ?_) #[true, true, false, false, false, false, false, false, false, false, false, false, false, false, false, false, false, false, false, false, false, false, false, false, false] rfl rfl (any_of HT_.out (by kernel_rfl)) (fun _ _ _ h => h) (Or.inl ⟨by rfl, ?_⟩) ?_ ?_
        rotate_left
        ·
         intro w'
         go_simp
         with_reducible rfl
        rotate_left
        ·
         simp only [Act.put, List.setIfInBounds_toArray, List.set_cons_zero, List.set_cons_succ, i64_w, i32_w]
         rfl
        refine pure_ (i := 2) (N := some 29) (v := ?_) (a' := ?_) #[true, true, true, false, false, false, false, false, false, false, false, false, false, false, false, false, false, false, false, false, false, false, false, false, false] rfl rfl (any_of HT_.out (by kernel_rfl)) (fun _ _ _ h => h) (Or.inl ⟨by rfl, ?_⟩) ?_ ?_
        rotate_left
        ·
         intro w'
         go_simp
         with_reducible rfl
        rotate_left
        ·
         simp only [Act.put, List.setIfInBounds_toArray, List.set_cons_zero, List.set_cons_succ, i64_w, i32_w]
         rfl
        refine pure_ (i := 3) (N := some 30) (v := ?_) (a' := ?_) #[true, true, true, true, false, false, false, false, false, false, false, false, false, false, false, false, false, false, false, false, false, false, false, false, false] rfl rfl (any_of HT_.out (by kernel_rfl)) (fun _ _ _ h => h) (Or.inl ⟨by rfl, ?_⟩) ?_ ?_
        rotate_left
        ·
         intro w'
         go_simp
         with_reducible rfl
        rotate_left
        ·
         simp only [Act.put, List.setIfInBounds_toArray, List.set_cons_zero, List.set_cons_succ, i64_w, i32_w]
         rfl
        refine pure_ (i := 4) (N := some 31) (v := ?_) (a' := ?_) #[true, true, true, true, true, false, false, false, false, false, false, false, false, false, false, false, false, false, false, false, false, false, false, false, false] rfl rfl (any_of HT_.out (by kernel_rfl)) (fun _ _ _ h => h) (Or.inl ⟨by rfl, ?_⟩) ?_ ?_
        rotate_left
        ·
         intro w'
         go_simp
         with_reducible rfl
        rotate_left
        ·
         simp only [Act.put, List.setIfInBounds_toArray, List.set_cons_zero, List.set_cons_succ, i64_w, i32_w]
         rfl
        refine pure_ (i := 5) (N := some 32) (v := ?_) (a' := ?_) #[true, true, true, true, true, true, false, false, false, false, false, false, false, false, false, false, false, false, false, false, false, false, false, false, false] rfl rfl (any_of HT_.out (by kernel_rfl)) (fun _ _ _ h => h) (Or.inl ⟨by rfl, ?_⟩) ?_ ?_
        rotate_left
        ·
         intro w'
         go_simp
         with_reducible rfl
        rotate_left
        ·
         simp only [Act.put, List.setIfInBounds_toArray, List.set_cons_zero, List.set_cons_succ, i64_w, i32_w]
         rfl
        refine pure_ (i := 6) (N := some 33) (v := undef) (a' := ?_) #[true, true, true, true, true, true, true, false, false, false, false, false, false, false, false, false, false, false, false, false, false, false, false, false, false] rfl rfl (any_of HT_.out (by kernel_rfl)) (fun _ _ _ h => h) (Or.inr ⟨by rfl, rfl⟩) ?_ ?_
        rotate_left
        ·
         simp only [Act.put, List.setIfInBounds_toArray, List.set_cons_zero, List.set_cons_succ, i64_w, i32_w]
         rfl
        refine pure_ (i := 7) (N := some 34) (v := undef) (a' := ?_) #[true, true, true, true, true, true, true, true, false, false, false, false, false, false, false, false, false, false, false, false, false, false, false, false, false] rfl rfl (any_of HT_.out (by kernel_rfl)) (fun _ _ _ h => h) (Or.inr ⟨by rfl, rfl⟩) ?_ ?_
        rotate_left
        ·
         simp only [Act.put, List.setIfInBounds_toArray, List.set_cons_zero, List.set_cons_succ, i64_w, i32_w]
         rfl
        refine pure_ (i := 8) (N := some 35) (v := undef) (a' := ?_) #[true, true, true, true, true, true, true, true, true, false, false, false, false, false, false, false, false, false, false, false, false, false, false, false, false] rfl rfl (any_of HT_.out (by kernel_rfl)) (fun _ _ _ h => h) (Or.inr ⟨by rfl, rfl⟩) ?_ ?_
        rotate_left
        ·
         simp only [Act.put, List.setIfInBounds_toArray, List.set_cons_zero, List.set_cons_succ, i64_w, i32_w]
         rfl
        refine pure_ (i := 9) (N := some 36) (v := undef) (a' := ?_) #[true, true, true, true, true, true, true, true, true, true, false, false, false, false, false, false, false, false, false, false, false, false, false, false, false] rfl rfl (any_of HT_.out (by kernel_rfl)) (fun _ _ _ h => h) (Or.inr ⟨by rfl, rfl⟩) ?_ ?_
        rotate_left
        ·
         simp only [Act.put, List.setIfInBounds_toArray, List.set_cons_zero, List.set_cons_succ, i64_w, i32_w]
         rfl
        refine pure_ (i := 10) (N := some 37) (v := undef) (a' := ?_) #[true, true, true, true, true, true, true, true, true, true, true, false, false, false, false, false, false, false, false, false, false, false, false, false, false] rfl rfl (any_of HT_.out (by kernel_rfl)) (fun _ _ _ h => h) (Or.inr ⟨by rfl, rfl⟩) ?_ ?_
        rotate_left
        ·
         simp only [Act.put, List.setIfInBounds_toArray, List.set_cons_zero, List.set_cons_succ, i64_w, i32_w]
         rfl
        refine pure_ (i := 11) (N := some 38) (v := ?_) (a' := ?_) #[true, true, true, true, true, true, true, true, true, true, true, true, false, false, false, false, false, false, false, false, false, false, false, false, false] rfl rfl (any_of HT_.out (by kernel_rfl)) (fun _ _ _ h => h) (Or.inl ⟨by rfl, ?_⟩) ?_ ?_
        rotate_left
        ·
         intro w'
         go_simp
         with_reducible rfl
        rotate_left
        ·
         simp only [Act.put, List.setIfInBounds_toArray, List.set_cons_zero, List.set_cons_succ, i64_w, i32_w]
         rfl
        refine pure_ (i := 12) (N := some 39) (v := ?_) (a' := ?_) #[true, true, true, true, true, true, true, true, true, true, true, true, true, false, false, false, false, false, false, false, false, false, false, false, false] rfl rfl (any_of HT_.out (by kernel_rfl)) (fun _ _ _ h => h) (Or.inl ⟨by rfl, ?_⟩) ?_ ?_
        rotate_left
        ·
         intro w'
         go_simp
         with_reducible rfl
        rotate_left
        ·
         simp only [Act.put, List.setIfInBounds_toArray, List.set_cons_zero, List.set_cons_succ, i64_w, i32_w]
         rfl
        refine pure_ (i := 13) (N := some 40) (v := undef) (a' := ?_) #[true, true, true, true, true, true, true, true, true, true, true, true, true, true, false, false, false, false, false, false, false, false, false, false, false] rfl rfl (any_of HT_.out (by kernel_rfl)) (fun _ _ _ h => h) (Or.inr ⟨by rfl, rfl⟩) ?_ ?_
        rotate_left
        ·
         simp only [Act.put, List.setIfInBounds_toArray, List.set_cons_zero, List.set_cons_succ, i64_w, i32_w]
         rfl
        refine pure_ (i := 14) (N := some 41) (v := undef) (a' := ?_) #[true, true, true, true, true, true, true, true, true, true, true, true, true, true, true, false, false, false, false, false, false, false, false, false, false] rfl rfl (any_of HT_.out (by kernel_rfl)) (fun _ _ _ h => h) (Or.inr ⟨by rfl, rfl⟩) ?_ ?_
        rotate_left
        ·
         simp only [Act.put, List.setIfInBounds_toArray, List.set_cons_zero, List.set_cons_succ, i64_w, i32_w]
         rfl
        refine pure_ (i := 15) (N := some 42) (v := undef) (a' := ?_) #[true, true, true, true, true, true, true, true, true, true, true, true, true, true, true, true, false, false, false, false, false, false, false, false, false] rfl rfl (any_of HT_.out (by kernel_rfl)) (fun _ _ _ h => h) (Or.inr ⟨by rfl, rfl⟩) ?_ ?_
        rotate_left
        ·
         simp only [Act.put, List.setIfInBounds_toArray, List.set_cons_zero, List.set_cons_succ, i64_w, i32_w]
         rfl
        refine pure_ (i := 16) (N := some 43) (v := undef) (a' := ?_) #[true, true, true, true, true, true, true, true, true, true, true, true, true, true, true, true, true, false, false, false, false, false, false, false, false] rfl rfl (any_of HT_.out (by kernel_rfl)) (fun _ _ _ h => h) (Or.inr ⟨by rfl, rfl⟩) ?_ ?_
        rotate_left
        ·
         simp only [Act.put, List.setIfInBounds_toArray, List.set_cons_zero, List.set_cons_succ, i64_w, i32_w]
         rfl
        refine pure_ (i := 17) (N := some 44) (v := undef) (a' := ?_) #[true, true, true, true, true, true, true, true, true, true, true, true, true, true, true, true, true, true, false, false, false, false, false, false, false] rfl rfl (any_of HT_.out (by kernel_rfl)) (fun _ _ _ h => h) (Or.inr ⟨by rfl, rfl⟩) ?_ ?_
        rotate_left
        ·
         simp only [Act.put, List.setIfInBounds_toArray, List.set_cons_zero, List.set_cons_succ, i64_w, i32_w]
         rfl
        refine pure_ (i := 18) (N := some 45) (v := undef) (a' := ?_) #[true, true, true, true, true, true, true, true, true, true, true, true, true, true, true, true, true, true, true, false, false, false, false, false, false] rfl rfl (any_of HT_.out (by kernel_rfl)) (fun _ _ _ h => h) (Or.inr ⟨by rfl, rfl⟩) ?_ ?_
        rotate_left
        ·
         simp only [Act.put, List.setIfInBounds_toArray, List.set_cons_zero, List.set_cons_succ, i64_w, i32_w]
         rfl
        refine pure_ (i := 19) (N := some 46) (v := undef) (a' := ?_) #[true, true, true, true, true, true, true, true, true, true, true, true, true, true, true, true, true, true, true, true, false, false, false, false, false] rfl rfl (any_of HT_.out (by kernel_rfl)) (fun _ _ _ h => h) (Or.inr ⟨by rfl, rfl⟩) ?_ ?_
        rotate_left
        ·
         simp only [Act.put, List.setIfInBounds_toArray, List.set_cons_zero, List.set_cons_succ, i64_w, i32_w]
         rfl
        refine pure_ (i := 20) (N := some 47) (v := undef) (a' := ?_) #[true, true, true, true, true, true, true, true, true, true, true, true, true, true, true, true, true, true, true, true, true, false, false, false, false] rfl rfl (any_of HT_.out (by kernel_rfl)) (fun _ _ _ h => h) (Or.inr ⟨by rfl, rfl⟩) ?_ ?_
        rotate_left
        ·
         simp only [Act.put, List.setIfInBounds_toArray, List.set_cons_zero, List.set_cons_succ, i64_w, i32_w]
         rfl
        refine pure_ (i := 21) (N := some 48) (v := undef) (a' := ?_) #[true, true, true, true, true, true, true, true, true, true, true, true, true, true, true, true, true, true, true, true, true, true, false, false, false] rfl rfl (any_of HT_.out (by kernel_rfl)) (fun _ _ _ h => h) (Or.inr ⟨by rfl, rfl⟩) ?_ ?_
        rotate_left
        ·
         simp only [Act.put, List.setIfInBounds_toArray, List.set_cons_zero, List.set_cons_succ, i64_w, i32_w]
         rfl
        refine pure_ (i := 22) (N := some 49) (v := undef) (a' := ?_) #[true, true, true, true, true, true, true, true, true, true, true, true, true, true, true, true, true, true, true, true, true, true, true, false, false] rfl rfl (any_of HT_.out (by kernel_rfl)) (fun _ _ _ h => h) (Or.inr ⟨by rfl, rfl⟩) ?_ ?_
        rotate_left
        ·
         simp only [Act.put, List.setIfInBounds_toArray, List.set_cons_zero, List.set_cons_succ, i64_w, i32_w]
         rfl
        refine pure_ (i := 23) (N := some 50) (v := undef) (a' := ?_) #[true, true, true, true, true, true, true, true, true, true, true, true, true, true, true, true, true, true, true, true, true, true, true, true, false] rfl rfl (any_of HT_.out (by kernel_rfl)) (fun _ _ _ h => h) (Or.inr ⟨by rfl, rfl⟩) ?_ ?_
        rotate_left
        ·
         simp only [Act.put, List.setIfInBounds_toArray, List.set_cons_zero, List.set_cons_succ, i64_w, i32_w]
         rfl
        refine pure_ (i := 24) (N := some 51) (v := ?_) (a' := ?_) #[true, true, true, true, true, true, true, true, true, true, true, true, true, true, true, true, true, true, true, true, true, true, true, true, true] rfl rfl (any_of HT_.out (by kernel_rfl)) (fun _ _ _ h => h) (Or.inl ⟨by rfl, ?_⟩) ?_ ?_
        rotate_left
        ·
         intro w'
         go_simp
         with_reducible rfl
        rotate_left
        ·
         simp only [Act.put, List.setIfInBounds_toArray, List.set_cons_zero, List.set_cons_succ, i64_w, i32_w]
         rfl
        refine done_ (done_of HT_.out (by kernel_rfl)) ?_
        try go_wp2
        go_meet
        case rel => exact ⟨_, (x8_1), (by first | rfl | (simp; done) | (simp [*]; done)), H', ⟨by have := HK1.out; first | omega | exact Nat.le_refl _⟩, ⟨by (with_reducible repeat (first | refine blk_drewN ?_ _ | refine blk_drew ?_ | refine blk_alloc ?_ _)); exact BK657.out⟩, ⟨by (with_reducible repeat (first | refine blk_drewN ?_ _ | refine blk_drew ?_ | refine blk_alloc ?_ _)); exact BK658.out⟩, ⟨by repeat (first | (with_reducible first | exact HB.out | apply below_alloc | apply pw_below_drewN | apply below_drew1 | refine below_set ?_ GE657.out | refine below_set ?_ GE658.out) | exact HB.out)⟩⟩
    case rest =>
     clear HC10
     try clear c1
     try clear c2
     try clear p2
     try clear p6
     try clear c7
     try clear c20
     try clear c20b0
     try clear c21
     try clear c21b0
     try clear c22
     try clear c23
     try clear c24
     try clear c27
     try clear c29
     obtain ⟨kq, x8_9, rfl, HA, HJ9, BK657, BK658, HB⟩ := hcut
     cases kq with
     | zero => exact absurd HA.out (by simp [selection_Between.j1])
     | succ kj9 =>
      have H := HA.out
      clear HA
      simp only [selection_Between.j1] at H
      by_cases c38 : 0 ≤ x8_9
      ·
       rw [if_pos c38] at H
       have c38b0 := eq_true c38
       have c38b1 : decide (0 ≤ x8_9) = true := decide_eq_true c38
       clear c38
       by_cases c39 : x8_9 ≤ (l1.length : Int)
       ·
        rw [if_pos c39] at H
        have c39b0 := eq_true c39
        have c39b1 : decide (x8_9 ≤ (l1.length : Int)) = true := decide_eq_true c39
        clear c39
        replace H := Option.bind_eq_some_iff.mp H
        obtain ⟨⟨t666, t667⟩, A400, H⟩ := H
        replace H : (if x8_9 ≤ (l2.length : Int) then ((selection_cover.f (l2.drop (x8_9 : Int).toNat)).bind fun bt669 => ((selection_join.f t666 t667 bt669.1 bt669.2).bind fun bt671 => ((slices_Clone_int_int.f (l1.take (x8_9 : Int).toNat)).bind fun t675 => (some (t675, bt671.1, bt671.2, 0))))) else (none)) = some (r1, r2, r3, r4) := H
        have A40 := Aside0.mk A400
        clear A400
        have c41b0 := eq_true (of_decide_eq_true (by first | (with_reducible assumption) | assumption) : 0 ≤ x8_9)
        by_cases c42 : x8_9 ≤ (l2.length : Int)
        ·
         rw [if_pos c42] at H
         have c42b0 := eq_true c42
         have c42b1 : decide (x8_9 ≤ (l2.length : Int)) = true := decide_eq_true c42
         clear c42
         replace H := Option.bind_eq_some_iff.mp H
         obtain ⟨⟨t669, t670⟩, A430, H⟩ := H
         replace H : ((selection_join.f t666 t667 t669 t670).bind fun bt671 => ((slices_Clone_int_int.f (l1.take (x8_9 : Int).toNat)).bind fun t675 => (some (t675, bt671.1, bt671.2, 0)))) = some (r1, r2, r3, r4) := H
         have A43 := Aside0.mk A430
         clear A430
         replace H := Option.bind_eq_some_iff.mp H
         obtain ⟨⟨t671, t672⟩, A440, H⟩ := H
         replace H : ((slices_Clone_int_int.f (l1.take (x8_9 : Int).toNat)).bind fun t675 => (some (t675, t671, t672, 0))) = some (r1, r2, r3, r4) := H
         have A44 := Aside0.mk A440
         clear A440
         have c45b0 := eq_true (of_decide_eq_true (by first | (with_reducible assumption) | assumption) : 0 ≤ x8_9)
         have c46b0 := eq_true (of_decide_eq_true (by first | (with_reducible assumption) | assumption) : x8_9 ≤ (l1.length : Int))
         replace H := Option.bind_eq_some_iff.mp H
         obtain ⟨t675, A470, H⟩ := H
         replace H : (some (t675, t671, t672, 0)) = some (r1, r2, r3, r4) := H
         have A47 := Aside0.mk A470
         clear A470
         simp only [Option.some.injEq, Prod.mk.injEq] at H
         obtain ⟨rfl, rfl, rfl, rfl⟩ := H
         try go_wp2
         have n0_ := Aside0.mk (blk_drew BK657.out)
         have n1_ := Aside0.mk (blk_drew BK658.out)
         have n2_ := Aside0.mk (below_drew1 HB.out)
         clear BK657
         clear BK658
         clear HB
         have BK657 := n0_
         have BK658 := n1_
         have HB := n2_
         clear n0_ n1_ n2_
         obtain ⟨i049, hi049, _, hsz49, _⟩ := info_parts info3
         obtain ⟨A49, hcut49, hA49, hC49⟩ := print_drop_of (P := Tryd.prog) (Value.int .i64) 0 26 3 .i64 Tryd.underlying26 hi049 hsz49 A1 c1 l1 x8_9 (of_decide_eq_true (by first | (with_reducible assumption) | assumption)) (of_decide_eq_true (by first | (with_reducible assumption) | assumption)) HC1.out
         have HR665 := Aside0.mk (Kd.C_of_reads (h1 := fun _ => rfl) (hA49 _ (Kd.reads_of_C HR1.out)))
         have HC665 := Aside0.mk hC49
         clear hA49 hC49 hi049 hsz49
         obtain ⟨i050, hi050, _, hsz50, _⟩ := info_parts info3
         obtain ⟨A50, hcut50, hA50, hC50⟩ := print_drop_of (P := Tryd.prog) (Value.int .i64) 0 26 3 .i64 Tryd.underlying26 hi050 hsz50 A2 c2 l2 x8_9 (of_decide_eq_true (by first | (with_reducible assumption) | assumption)) (of_decide_eq_true (by first | (with_reducible assumption) | assumption)) HC2.out
         have HR668 := Aside0.mk (Kd.C_of_reads (h1 := fun _ => rfl) (hA50 _ (Kd.reads_of_C HR2.out)))
         have HC668 := Aside0.mk hC50
         clear hA50 hC50 hi050 hsz50
         refine start_ (n := 11) (S := fun w' => True) (ds := []) #[false, false, false, false, false, false, false, false, false, false, false] (by kernel_rfl) rfl rfl trivial (fun hHeld => ?_); refine with_tabW selection_Between.tab8 selection_Between.bits8 (fun HT_ HW_ => ?_)
         generalize wc.drew = w48 at BK657 BK658 HB HR665 HR668 hHeld ⊢
         refine pure_ (i := 0) (N := some 54) (v := ?_) (a' := ?_) #[true, false, false, false, false, false, false, false, false, false, false] rfl rfl (any_of HT_.out (by kernel_rfl)) (fun _ _ _ h => h) (Or.inl ⟨by rfl, ?_⟩) ?_ ?_
         rotate_left
         ·
          intro w'
          go_simp
          with_reducible rfl
         rotate_left
         ·
          simp only [Act.put, List.setIfInBounds_toArray, List.set_cons_zero, List.set_cons_succ, i64_w, i32_w]
          rfl
         refine pure_ (i := 1) (N := some 55) (v := ?_) (a' := ?_) #[true, true, false, false, false, false, false, false, false, false, false] rfl rfl (any_of HT_.out (by kernel_rfl)) (fun _ _ _ h => h) (Or.inl ⟨by rfl, ?_⟩) ?_ ?_
         rotate_left
         ·
          intro w'
          go_simp
          with_reducible rfl
         rotate_left
         ·
          simp only [Act.put, List.setIfInBounds_toArray, List.set_cons_zero, List.set_cons_succ, i64_w, i32_w]
          rfl
         refine pure_ (i := 2) (N := some 56) (v := ?_) (a' := ?_) #[true, true, true, false, false, false, false, false, false, false, false] rfl rfl (any_of HT_.out (by kernel_rfl)) (fun _ _ _ h => h) (Or.inl ⟨by rfl, ?_⟩) ?_ ?_
         rotate_left
         ·
          intro w'
          go_simp
          with_reducible rfl
         rotate_left
         ·
          simp only [Act.put, List.setIfInBounds_toArray, List.set_cons_zero, List.set_cons_succ, i64_w, i32_w]
          rfl
         refine pure_ (i := 4) (N := some 58) (v := ?_) (a' := ?_) #[true, true, true, false, true, false, false, false, false, false, false] rfl rfl (any_of HT_.out (by kernel_rfl)) (fun _ _ _ h => h) (Or.inl ⟨by rfl, ?_⟩) ?_ ?_
         rotate_left
         ·
          intro w'
          go_simp
          with_reducible rfl
         rotate_left
         ·
          simp only [Act.put, List.setIfInBounds_toArray, List.set_cons_zero, List.set_cons_succ, i64_w, i32_w]
          rfl
         refine pure_ (i := 5) (N := some 59) (v := ?_) (a' := ?_) #[true, true, true, false, true, true, false, false, false, false, false] rfl rfl (any_of HT_.out (by kernel_rfl)) (fun _ _ _ h => h) (Or.inl ⟨by rfl, ?_⟩) ?_ ?_
         rotate_left
         ·
          intro w'
          go_simp
          with_reducible rfl
         rotate_left
         ·
          simp only [Act.put, List.setIfInBounds_toArray, List.set_cons_zero, List.set_cons_succ, i64_w, i32_w]
          rfl
         refine pure_ (i := 6) (N := some 60) (v := ?_) (a' := ?_) #[true, true, true, false, true, true, true, false, false, false, false] rfl rfl (any_of HT_.out (by kernel_rfl)) (fun _ _ _ h => h) (Or.inl ⟨by rfl, ?_⟩) ?_ ?_
         rotate_left
         ·
          intro w'
          go_simp
          with_reducible rfl
         rotate_left
         ·
          simp only [Act.put, List.setIfInBounds_toArray, List.set_cons_zero, List.set_cons_succ, i64_w, i32_w]
          rfl
         refine join_ (σ := Nat) 1 #[true, true, true, true, true, true, true, true, true, true, false] (fun s_ => [(57, .agg #[.int .i64 t666, .int .i64 t667]), (61, .agg #[.int .i64 t669, .int .i64 t670]), (62, .agg #[.int .i64 t671, .int .i64 t672]), (9, .pointer (some ⟨s_, 0, none⟩))]) (fun s_ w' => (w'.heap[gb657]? = some (.cells #[.int .i64 a0_0, .string a0_1, .int .i64 a0_2, .slice A0_3 l0_3.length c0_3] 36 (0, 0))) ∧ (w'.heap[gb658]? = some (.cells #[.slice none 0 0, .int .i64 0, .int .i64 0] 54 (0, 0))) ∧ (w'.heap[s_]? = some (.cells #[.int .i64 0, .int .i64 0] 85 (0, 0))) ∧ (w.heap.size ≤ s_) ∧ (w.heap.size ≤ s_) ∧ (gb657 ≠ s_) ∧ (s_ ≠ gb657) ∧ (gb658 ≠ s_) ∧ (s_ ≠ gb658) ∧ (Below w.heap.size w w')) ?_ ?_
         rotate_left
         ·
          intro hCont
          refine two_ (i := 3) (j := 9) (Ni := some 57) (Nj := some 9) #[true, true, true, true, true, true, true, false, false, false, false] #[true, true, true, false, true, true, true, false, false, true, false] rfl rfl rfl rfl (two_of HT_.out (by kernel_rfl)) (by decide) (by decide) (fun K hK => ?_) (fun K hK => ?_)
          ·
           skip
           refine goes_ Tryd.func80 (by kernel_rfl) rfl #[.slice A49 (l1.drop (x8_9 : Int).toNat).length (c1 - x8_9.toNat)] (by rfl) rfl rfl (by (try simp only [List.map_toArray, List.map_cons, List.map_nil]); first | done | (rw [show (l1.drop (x8_9 : Int).toNat).length = (l1.length - x8_9.toNat) from List.length_drop] <;> rfl) | rfl | (simp only [List.length_drop, List.length_take]; rfl)) ?_
           with_reducible refine (selection_cover.calls _ _ (l1.drop (x8_9 : Int).toNat) t666 t667 _ ?side1 ?side2 A40.out).mono ?_
           (case side1 => repeat (first | exact (Kd.C_below HR665.out HB.out) | (with_reducible refine Kd.C_alloc ?_ _) | (with_reducible refine Kd.C_drewN ?_ _) | (with_reducible refine Kd.C_drew ?_)))
           (case side2 => exact HC665.out)
           rintro e w51 ⟨rfl, hb⟩
           refine ⟨_, rfl, ?_⟩
           have n0_ := Aside0.mk (blk_below (g := gb657) (o := .cells #[.int .i64 a0_0, .string a0_1, .int .i64 a0_2, .slice A0_3 l0_3.length c0_3] 36 (0, 0)) (by (with_reducible repeat (first | refine blk_drewN ?_ _ | refine blk_drew ?_ | refine blk_alloc ?_ _)); exact BK657.out) hb)
           have n1_ := Aside0.mk (blk_below (g := gb658) (o := .cells #[.slice none 0 0, .int .i64 0, .int .i64 0] 54 (0, 0)) (by (with_reducible repeat (first | refine blk_drewN ?_ _ | refine blk_drew ?_ | refine blk_alloc ?_ _)); exact BK658.out) hb)
           have n2_ := Aside0.mk (below_step (by repeat (first | (with_reducible first | exact HB.out | apply below_alloc | apply pw_below_drewN | apply below_drew1 | refine below_set ?_ GE657.out | refine below_set ?_ GE658.out) | exact HB.out)) hb)
           clear BK657
           clear BK658
           clear HB
           have BK657 := n0_
           have BK658 := n1_
           have HB := n2_
           clear n0_ n1_ n2_
           (try clear hb)
           (try clear hb2)
           (try clear hk)
           (try clear hi)
           refine hK.out _ _ trivial (fun hHeld => ?_)
           clear hK K
           refine norm_ (a' := ?_) ?_ ?_
           rotate_left
           ·
            show Act.put _ (some 57) _ = _
            simp only [Act.put, List.setIfInBounds_toArray, List.set_cons_zero, List.set_cons_succ, i64_w, i32_w]
            rfl
           refine two_ (i := 7) (j := 9) (Ni := some 61) (Nj := some 9) #[true, true, true, true, true, true, true, true, false, false, false] #[true, true, true, true, true, true, true, false, false, true, false] rfl rfl rfl rfl (two_of HT_.out (by kernel_rfl)) (by decide) (by decide) (fun K hK => ?_) (fun K hK => ?_)
           ·
            skip
            refine goes_ Tryd.func80 (by kernel_rfl) rfl #[.slice A50 (l2.drop (x8_9 : Int).toNat).length (c2 - x8_9.toNat)] (by rfl) rfl rfl (by (try simp only [List.map_toArray, List.map_cons, List.map_nil]); first | done | (rw [show (l2.drop (x8_9 : Int).toNat).length = (l2.length - x8_9.toNat) from List.length_drop] <;> rfl) | rfl | (simp only [List.length_drop, List.length_take]; rfl)) ?_
            with_reducible refine (selection_cover.calls _ _ (l2.drop (x8_9 : Int).toNat) t669 t670 _ ?side1 ?side2 A43.out).mono ?_
            (case side1 => repeat (first | exact (Kd.C_below HR668.out HB.out) | (with_reducible refine Kd.C_alloc ?_ _) | (with_reducible refine Kd.C_drewN ?_ _) | (with_reducible refine Kd.C_drew ?_)))
            (case side2 => exact HC668.out)
            rintro e w52 ⟨rfl, hb⟩
            refine ⟨_, rfl, ?_⟩
            have n0_ := Aside0.mk (blk_below (g := gb657) (o := .cells #[.int .i64 a0_0, .string a0_1, .int .i64 a0_2, .slice A0_3 l0_3.length c0_3] 36 (0, 0)) (by (with_reducible repeat (first | refine blk_drewN ?_ _ | refine blk_drew ?_ | refine blk_alloc ?_ _)); exact BK657.out) hb)
            have n1_ := Aside0.mk (blk_below (g := gb658) (o := .cells #[.slice none 0 0, .int .i64 0, .int .i64 0] 54 (0, 0)) (by (with_reducible repeat (first | refine blk_drewN ?_ _ | refine blk_drew ?_ | refine blk_alloc ?_ _)); exact BK658.out) hb)
            have n2_ := Aside0.mk (below_step (by repeat (first | (with_reducible first | exact HB.out | apply below_alloc | apply pw_below_drewN | apply below_drew1 | refine below_set ?_ GE657.out | refine below_set ?_ GE658.out) | exact HB.out)) hb)
            clear BK657
            clear BK658
            clear HB
            have BK657 := n0_
            have BK658 := n1_
            have HB := n2_
            clear n0_ n1_ n2_
            (try clear hb)
            (try clear hb2)
            (try clear hk)
            (try clear hi)
            refine hK.out _ _ trivial (fun hHeld => ?_)
            clear hK K
            refine norm_ (a' := ?_) ?_ ?_
            rotate_left
            ·
             show Act.put _ (some 61) _ = _
             simp only [Act.put, List.setIfInBounds_toArray, List.set_cons_zero, List.set_cons_succ, i64_w, i32_w]
             rfl
            refine two_ (i := 8) (j := 9) (Ni := some 62) (Nj := some 9) #[true, true, true, true, true, true, true, true, true, false, false] #[true, true, true, true, true, true, true, true, false, true, false] rfl rfl rfl rfl (two_of HT_.out (by kernel_rfl)) (by decide) (by decide) (fun K hK => ?_) (fun K hK => ?_)
            ·
             skip
             refine goes_ Tryd.func79 (by kernel_rfl) rfl #[.agg #[.int .i64 t666, .int .i64 t667], .agg #[.int .i64 t669, .int .i64 t670]] (by rfl) rfl rfl (by (try simp only [List.map_toArray, List.map_cons, List.map_nil]); first | done | rfl | (simp only [List.length_drop, List.length_take]; rfl)) ?_
             with_reducible refine (selection_join.calls t666 t667 t669 t670 t671 t672 _ A44.out).mono ?_
             rintro e w53 ⟨rfl, hb⟩
             refine ⟨_, rfl, ?_⟩
             have n0_ := Aside0.mk (blk_below (g := gb657) (o := .cells #[.int .i64 a0_0, .string a0_1, .int .i64 a0_2, .slice A0_3 l0_3.length c0_3] 36 (0, 0)) (by (with_reducible repeat (first | refine blk_drewN ?_ _ | refine blk_drew ?_ | refine blk_alloc ?_ _)); exact BK657.out) hb)
             have n1_ := Aside0.mk (blk_below (g := gb658) (o := .cells #[.slice none 0 0, .int .i64 0, .int .i64 0] 54 (0, 0)) (by (with_reducible repeat (first | refine blk_drewN ?_ _ | refine blk_drew ?_ | refine blk_alloc ?_ _)); exact BK658.out) hb)
             have n2_ := Aside0.mk (below_step (by repeat (first | (with_reducible first | exact HB.out | apply below_alloc | apply pw_below_drewN | apply below_drew1 | refine below_set ?_ GE657.out | refine below_set ?_ GE658.out) | exact HB.out)) hb)
             clear BK657
             clear BK658
             clear HB
             have BK657 := n0_
             have BK658 := n1_
             have HB := n2_
             clear n0_ n1_ n2_
             (try clear hb)
             (try clear hb2)
             (try clear hk)
             (try clear hi)
             refine hK.out _ _ trivial (fun hHeld => ?_)
             clear hK K
             refine norm_ (a' := ?_) ?_ ?_
             rotate_left
             ·
              show Act.put _ (some 62) _ = _
              simp only [Act.put, List.setIfInBounds_toArray, List.set_cons_zero, List.set_cons_succ, i64_w, i32_w]
              rfl
             refine one_ (i := 9) (N := some 9) #[true, true, true, true, true, true, true, true, true, true, false] rfl rfl (one_of HT_.out (by kernel_rfl)) (by decide) (fun K hK => ?_)
             refine box_step ?hg (N := 9) ?hd (cs := #[.int .i64 0, .int .i64 0]) (t := 85) ?hr ?_; (case hd => rfl); (case hg => rfl); (case hr => first | (go_simp; done) | (go_simp; rfl))
             intro gb673 hg w54 hbox hb
             have n0_ := Aside0.mk (blk_below (g := gb657) (o := .cells #[.int .i64 a0_0, .string a0_1, .int .i64 a0_2, .slice A0_3 l0_3.length c0_3] 36 (0, 0)) (by (with_reducible repeat (first | refine blk_drewN ?_ _ | refine blk_drew ?_ | refine blk_alloc ?_ _)); exact BK657.out) hb)
             have n1_ := Aside0.mk (blk_below (g := gb658) (o := .cells #[.slice none 0 0, .int .i64 0, .int .i64 0] 54 (0, 0)) (by (with_reducible repeat (first | refine blk_drewN ?_ _ | refine blk_drew ?_ | refine blk_alloc ?_ _)); exact BK658.out) hb)
             have n2_ := Aside0.mk (below_step (by repeat (first | (with_reducible first | exact HB.out | apply below_alloc | apply pw_below_drewN | apply below_drew1 | refine below_set ?_ GE657.out | refine below_set ?_ GE658.out) | exact HB.out)) hb)
             have n3_ := Aside0.mk (hbox)
             have n4_ := Aside0.mk ((by rw [hg]; exact (below_size (by repeat (first | (with_reducible first | exact HB.out | apply below_alloc | apply pw_below_drewN | apply below_drew1 | refine below_set ?_ GE657.out | refine below_set ?_ GE658.out) | exact HB.out))) : w.heap.size ≤ gb673))
             have n5_ := Aside0.mk ((by rw [hg]; exact (below_size (by repeat (first | (with_reducible first | exact HB.out | apply below_alloc | apply pw_below_drewN | apply below_drew1 | refine below_set ?_ GE657.out | refine below_set ?_ GE658.out) | exact HB.out))) : w.heap.size ≤ gb673))
             have n6_ := Aside0.mk ((by rw [hg]; exact Nat.ne_of_lt (blk_lt (g := gb657) (o := .cells #[.int .i64 a0_0, .string a0_1, .int .i64 a0_2, .slice A0_3 l0_3.length c0_3] 36 (0, 0)) (by (with_reducible repeat (first | refine blk_drewN ?_ _ | refine blk_drew ?_ | refine blk_alloc ?_ _)); exact BK657.out)) : gb657 ≠ gb673))
             have n7_ := Aside0.mk ((by rw [hg]; exact Nat.ne_of_gt (blk_lt (g := gb657) (o := .cells #[.int .i64 a0_0, .string a0_1, .int .i64 a0_2, .slice A0_3 l0_3.length c0_3] 36 (0, 0)) (by (with_reducible repeat (first | refine blk_drewN ?_ _ | refine blk_drew ?_ | refine blk_alloc ?_ _)); exact BK657.out)) : gb673 ≠ gb657))
             have n8_ := Aside0.mk ((by rw [hg]; exact Nat.ne_of_lt (blk_lt (g := gb658) (o := .cells #[.slice none 0 0, .int .i64 0, .int .i64 0] 54 (0, 0)) (by (with_reducible repeat (first | refine blk_drewN ?_ _ | refine blk_drew ?_ | refine blk_alloc ?_ _)); exact BK658.out)) : gb658 ≠ gb673))
             have n9_ := Aside0.mk ((by rw [hg]; exact Nat.ne_of_gt (blk_lt (g := gb658) (o := .cells #[.slice none 0 0, .int .i64 0, .int .i64 0] 54 (0, 0)) (by (with_reducible repeat (first | refine blk_drewN ?_ _ | refine blk_drew ?_ | refine blk_alloc ?_ _)); exact BK658.out)) : gb673 ≠ gb658))
             clear BK657
             clear BK658
             clear HB
             have BK657 := n0_
             have BK658 := n1_
             have HB := n2_
             have BK673 := n3_
             have GW673 := n4_
             have GE673 := n5_
             have NB657_673 := n6_
             have NB673_657 := n7_
             have NB658_673 := n8_
             have NB673_658 := n9_
             clear n0_ n1_ n2_ n3_ n4_ n5_ n6_ n7_ n8_ n9_
             clear hb hbox hg
             refine hK.out _ _ trivial (fun hHeld => ?_)
             clear hK K
             refine norm_ (a' := ?_) ?_ ?_
             rotate_left
             ·
              show Act.put _ (some 9) _ = _
              simp only [Act.put, List.setIfInBounds_toArray, List.set_cons_zero, List.set_cons_succ, i64_w, i32_w]
              rfl
             exact norm_ (by simp only [putAll, Act.put, List.setIfInBounds_toArray, List.set_cons_zero, List.set_cons_succ]) (hCont (gb673) _ ⟨(by (with_reducible repeat (first | refine blk_drewN ?_ _ | refine blk_drew ?_ | refine blk_alloc ?_ _)); exact BK657.out), (by (with_reducible repeat (first | refine blk_drewN ?_ _ | refine blk_drew ?_ | refine blk_alloc ?_ _)); exact BK658.out), (by (with_reducible repeat (first | refine blk_drewN ?_ _ | refine blk_drew ?_ | refine blk_alloc ?_ _)); exact BK673.out), GW673.out, GE673.out, NB657_673.out, NB673_657.out, NB658_673.out, NB673_658.out, (by repeat (first | (with_reducible first | exact HB.out | apply below_alloc | apply pw_below_drewN | apply below_drew1 | refine below_set ?_ GE657.out | refine below_set ?_ GE658.out | refine below_set ?_ GE673.out) | exact HB.out))⟩)
            ·
             skip
             refine box_step ?hg (N := 9) ?hd (cs := #[.int .i64 0, .int .i64 0]) (t := 85) ?hr ?_; (case hd => rfl); (case hg => rfl); (case hr => first | (go_simp; done) | (go_simp; rfl))
             intro gb673 hg w53 hbox hb
             have n0_ := Aside0.mk (blk_below (g := gb657) (o := .cells #[.int .i64 a0_0, .string a0_1, .int .i64 a0_2, .slice A0_3 l0_3.length c0_3] 36 (0, 0)) (by (with_reducible repeat (first | refine blk_drewN ?_ _ | refine blk_drew ?_ | refine blk_alloc ?_ _)); exact BK657.out) hb)
             have n1_ := Aside0.mk (blk_below (g := gb658) (o := .cells #[.slice none 0 0, .int .i64 0, .int .i64 0] 54 (0, 0)) (by (with_reducible repeat (first | refine blk_drewN ?_ _ | refine blk_drew ?_ | refine blk_alloc ?_ _)); exact BK658.out) hb)
             have n2_ := Aside0.mk (below_step (by repeat (first | (with_reducible first | exact HB.out | apply below_alloc | apply pw_below_drewN | apply below_drew1 | refine below_set ?_ GE657.out | refine below_set ?_ GE658.out) | exact HB.out)) hb)
             have n3_ := Aside0.mk (hbox)
             have n4_ := Aside0.mk ((by rw [hg]; exact (below_size (by repeat (first | (with_reducible first | exact HB.out | apply below_alloc | apply pw_below_drewN | apply below_drew1 | refine below_set ?_ GE657.out | refine below_set ?_ GE658.out) | exact HB.out))) : w.heap.size ≤ gb673))
             have n5_ := Aside0.mk ((by rw [hg]; exact (below_size (by repeat (first | (with_reducible first | exact HB.out | apply below_alloc | apply pw_below_drewN | apply below_drew1 | refine below_set ?_ GE657.out | refine below_set ?_ GE658.out) | exact HB.out))) : w.heap.size ≤ gb673))
             have n6_ := Aside0.mk ((by rw [hg]; exact Nat.ne_of_lt (blk_lt (g := gb657) (o := .cells #[.int .i64 a0_0, .string a0_1, .int .i64 a0_2, .slice A0_3 l0_3.length c0_3] 36 (0, 0)) (by (with_reducible repeat (first | refine blk_drewN ?_ _ | refine blk_drew ?_ | refine blk_alloc ?_ _)); exact BK657.out)) : gb657 ≠ gb673))
             have n7_ := Aside0.mk ((by rw [hg]; exact Nat.ne_of_gt (blk_lt (g := gb657) (o := .cells #[.int .i64 a0_0, .string a0_1, .int .i64 a0_2, .slice A0_3 l0_3.length c0_3] 36 (0, 0)) (by (with_reducible repeat (first | refine blk_drewN ?_ _ | refine blk_drew ?_ | refine blk_alloc ?_ _)); exact BK657.out)) : gb673 ≠ gb657))
             have n8_ := Aside0.mk ((by rw [hg]; exact Nat.ne_of_lt (blk_lt (g := gb658) (o := .cells #[.slice none 0 0, .int .i64 0, .int .i64 0] 54 (0, 0)) (by (with_reducible repeat (first | refine blk_drewN ?_ _ | refine blk_drew ?_ | refine blk_alloc ?_ _)); exact BK658.out)) : gb658 ≠ gb673))
             have n9_ := Aside0.mk ((by rw [hg]; exact Nat.ne_of_gt (blk_lt (g := gb658) (o := .cells #[.slice none 0 0, .int .i64 0, .int .i64 0] 54 (0, 0)) (by (with_reducible repeat (first | refine blk_drewN ?_ _ | refine blk_drew ?_ | refine blk_alloc ?_ _)); exact BK658.out)) : gb673 ≠ gb658))
             clear BK657
             clear BK658
             clear HB
             have BK657 := n0_
             have BK658 := n1_
             have HB := n2_
             have BK673 := n3_
             have GW673 := n4_
             have GE673 := n5_
             have NB657_673 := n6_
             have NB673_657 := n7_
             have NB658_673 := n8_
             have NB673_658 := n9_
             clear n0_ n1_ n2_ n3_ n4_ n5_ n6_ n7_ n8_ n9_
             clear hb hbox hg
             refine hK.out _ _ trivial (fun hHeld => ?_)
             clear hK K
             refine norm_ (a' := ?_) ?_ ?_
             rotate_left
             ·
              show Act.put _ (some 9) _ = _
              simp only [Act.put, List.setIfInBounds_toArray, List.set_cons_zero, List.set_cons_succ, i64_w, i32_w]
              rfl
             refine one_ (i := 8) (N := some 62) #[true, true, true, true, true, true, true, true, true, true, false] rfl rfl (one_of HT_.out (by kernel_rfl)) (by decide) (fun K hK => ?_)
             refine goes_ Tryd.func79 (by kernel_rfl) rfl #[.agg #[.int .i64 t666, .int .i64 t667], .agg #[.int .i64 t669, .int .i64 t670]] (by rfl) rfl rfl (by (try simp only [List.map_toArray, List.map_cons, List.map_nil]); first | done | rfl | (simp only [List.length_drop, List.length_take]; rfl)) ?_
             with_reducible refine (selection_join.calls t666 t667 t669 t670 t671 t672 _ A44.out).mono ?_
             rintro e w54 ⟨rfl, hb⟩
             refine ⟨_, rfl, ?_⟩
             have n0_ := Aside0.mk (blk_below (g := gb657) (o := .cells #[.int .i64 a0_0, .string a0_1, .int .i64 a0_2, .slice A0_3 l0_3.length c0_3] 36 (0, 0)) (by (with_reducible repeat (first | refine blk_drewN ?_ _ | refine blk_drew ?_ | refine blk_alloc ?_ _)); exact BK657.out) hb)
             have n1_ := Aside0.mk (blk_below (g := gb658) (o := .cells #[.slice none 0 0, .int .i64 0, .int .i64 0] 54 (0, 0)) (by (with_reducible repeat (first | refine blk_drewN ?_ _ | refine blk_drew ?_ | refine blk_alloc ?_ _)); exact BK658.out) hb)
             have n2_ := Aside0.mk (blk_below (g := gb673) (o := .cells #[.int .i64 0, .int .i64 0] 85 (0, 0)) (by (with_reducible repeat (first | refine blk_drewN ?_ _ | refine blk_drew ?_ | refine blk_alloc ?_ _)); exact BK673.out) hb)
             have n3_ := Aside0.mk (below_step (by repeat (first | (with_reducible first | exact HB.out | apply below_alloc | apply pw_below_drewN | apply below_drew1 | refine below_set ?_ GE657.out | refine below_set ?_ GE658.out | refine below_set ?_ GE673.out) | exact HB.out)) hb)
             clear BK657
             clear BK658
             clear BK673
             clear HB
             have BK657 := n0_
             have BK658 := n1_
             have BK673 := n2_
             have HB := n3_
             clear n0_ n1_ n2_ n3_
             (try clear hb)
             (try clear hb2)
             (try clear hk)
             (try clear hi)
             refine hK.out _ _ trivial (fun hHeld => ?_)
             clear hK K
             refine norm_ (a' := ?_) ?_ ?_
             rotate_left
             ·
              show Act.put _ (some 62) _ = _
              simp only [Act.put, List.setIfInBounds_toArray, List.set_cons_zero, List.set_cons_succ, i64_w, i32_w]
              rfl
             exact norm_ (by simp only [putAll, Act.put, List.setIfInBounds_toArray, List.set_cons_zero, List.set_cons_succ]) (hCont (gb673) _ ⟨(by (with_reducible repeat (first | refine blk_drewN ?_ _ | refine blk_drew ?_ | refine blk_alloc ?_ _)); exact BK657.out), (by (with_reducible repeat (first | refine blk_drewN ?_ _ | refine blk_drew ?_ | refine blk_alloc ?_ _)); exact BK658.out), (by (with_reducible repeat (first | refine blk_drewN ?_ _ | refine blk_drew ?_ | refine blk_alloc ?_ _)); exact BK673.out), GW673.out, GE673.out, NB657_673.out, NB673_657.out, NB658_673.out, NB673_658.out, (by repeat (first | (with_reducible first | exact HB.out | apply below_alloc | apply pw_below_drewN | apply below_drew1 | refine below_set ?_ GE657.out | refine below_set ?_ GE658.out | refine below_set ?_ GE673.out) | exact HB.out))⟩)
           ·
            skip
            refine box_step ?hg (N := 9) ?hd (cs := #[.int .i64 0, .int .i64 0]) (t := 85) ?hr ?_; (case hd => rfl); (case hg => rfl); (case hr => first | (go_simp; done) | (go_simp; rfl))
            intro gb673 hg w52 hbox hb
            have n0_ := Aside0.mk (blk_below (g := gb657) (o := .cells #[.int .i64 a0_0, .string a0_1, .int .i64 a0_2, .slice A0_3 l0_3.length c0_3] 36 (0, 0)) (by (with_reducible repeat (first | refine blk_drewN ?_ _ | refine blk_drew ?_ | refine blk_alloc ?_ _)); exact BK657.out) hb)
            have n1_ := Aside0.mk (blk_below (g := gb658) (o := .cells #[.slice none 0 0, .int .i64 0, .int .i64 0] 54 (0, 0)) (by (with_reducible repeat (first | refine blk_drewN ?_ _ | refine blk_drew ?_ | refine blk_alloc ?_ _)); exact BK658.out) hb)
            have n2_ := Aside0.mk (below_step (by repeat (first | (with_reducible first | exact HB.out | apply below_alloc | apply pw_below_drewN | apply below_drew1 | refine below_set ?_ GE657.out | refine below_set ?_ GE658.out) | exact HB.out)) hb)
            have n3_ := Aside0.mk (hbox)
            have n4_ := Aside0.mk ((by rw [hg]; exact (below_size (by repeat (first | (with_reducible first | exact HB.out | apply below_alloc | apply pw_below_drewN | apply below_drew1 | refine below_set ?_ GE657.out | refine below_set ?_ GE658.out) | exact HB.out))) : w.heap.size ≤ gb673))
            have n5_ := Aside0.mk ((by rw [hg]; exact (below_size (by repeat (first | (with_reducible first | exact HB.out | apply below_alloc | apply pw_below_drewN | apply below_drew1 | refine below_set ?_ GE657.out | refine below_set ?_ GE658.out) | exact HB.out))) : w.heap.size ≤ gb673))
            have n6_ := Aside0.mk ((by rw [hg]; exact Nat.ne_of_lt (blk_lt (g := gb657) (o := .cells #[.int .i64 a0_0, .string a0_1, .int .i64 a0_2, .slice A0_3 l0_3.length c0_3] 36 (0, 0)) (by (with_reducible repeat (first | refine blk_drewN ?_ _ | refine blk_drew ?_ | refine blk_alloc ?_ _)); exact BK657.out)) : gb657 ≠ gb673))
            have n7_ := Aside0.mk ((by rw [hg]; exact Nat.ne_of_gt (blk_lt (g := gb657) (o := .cells #[.int .i64 a0_0, .string a0_1, .int .i64 a0_2, .slice A0_3 l0_3.length c0_3] 36 (0, 0)) (by (with_reducible repeat (first | refine blk_drewN ?_ _ | refine blk_drew ?_ | refine blk_alloc ?_ _)); exact BK657.out)) : gb673 ≠ gb657))
            have n8_ := Aside0.mk ((by rw [hg]; exact Nat.ne_of_lt (blk_lt (g := gb658) (o := .cells #[.slice none 0 0, .int .i64 0, .int .i64 0] 54 (0, 0)) (by (with_reducible repeat (first | refine blk_drewN ?_ _ | refine blk_drew ?_ | refine blk_alloc ?_ _)); exact BK658.out)) : gb658 ≠ gb673))
            have n9_ := Aside0.mk ((by rw [hg]; exact Nat.ne_of_gt (blk_lt (g := gb658) (o := .cells #[.slice none 0 0, .int .i64 0, .int .i64 0] 54 (0, 0)) (by (with_reducible repeat (first | refine blk_drewN ?_ _ | refine blk_drew ?_ | refine blk_alloc ?_ _)); exact BK658.out)) : gb673 ≠ gb658))
            clear BK657
            clear BK658
            clear HB
            have BK657 := n0_
            have BK658 := n1_
            have HB := n2_
            have BK673 := n3_
            have GW673 := n4_
            have GE673 := n5_
            have NB657_673 := n6_
            have NB673_657 := n7_
            have NB658_673 := n8_
            have NB673_658 := n9_
            clear n0_ n1_ n2_ n3_ n4_ n5_ n6_ n7_ n8_ n9_
            clear hb hbox hg
            refine hK.out _ _ trivial (fun hHeld => ?_)
            clear hK K
            refine norm_ (a' := ?_) ?_ ?_
            rotate_left
            ·
             show Act.put _ (some 9) _ = _
             simp only [Act.put, List.setIfInBounds_toArray, List.set_cons_zero, List.set_cons_succ, i64_w, i32_w]
             rfl
            refine one_ (i := 7) (N := some 61) #[true, true, true, true, true, true, true, true, false, true, false] rfl rfl (one_of HT_.out (by kernel_rfl)) (by decide) (fun K hK => ?_)
            refine goes_ Tryd.func80 (by kernel_rfl) rfl #[.slice A50 (l2.drop (x8_9 : Int).toNat).length (c2 - x8_9.toNat)] (by rfl) rfl rfl (by (try simp only [List.map_toArray, List.map_cons, List.map_nil]); first | done | (rw [show (l2.drop (x8_9 : Int).toNat).length = (l2.length - x8_9.toNat) from List.length_drop] <;> rfl) | rfl | (simp only [List.length_drop, List.length_take]; rfl)) ?_
            with_reducible refine (selection_cover.calls _ _ (l2.drop (x8_9 : Int).toNat) t669 t670 _ ?side1 ?side2 A43.out).mono ?_
            (case side1 => repeat (first | exact (Kd.C_below HR668.out HB.out) | (with_reducible refine Kd.C_alloc ?_ _) | (with_reducible refine Kd.C_drewN ?_ _) | (with_reducible refine Kd.C_drew ?_)))
            (case side2 => exact HC668.out)
            rintro e w53 ⟨rfl, hb⟩
            refine ⟨_, rfl, ?_⟩
            have n0_ := Aside0.mk (blk_below (g := gb657) (o := .cells #[.int .i64 a0_0, .string a0_1, .int .i64 a0_2, .slice A0_3 l0_3.length c0_3] 36 (0, 0)) (by (with_reducible repeat (first | refine blk_drewN ?_ _ | refine blk_drew ?_ | refine blk_alloc ?_ _)); exact BK657.out) hb)
            have n1_ := Aside0.mk (blk_below (g := gb658) (o := .cells #[.slice none 0 0, .int .i64 0, .int .i64 0] 54 (0, 0)) (by (with_reducible repeat (first | refine blk_drewN ?_ _ | refine blk_drew ?_ | refine blk_alloc ?_ _)); exact BK658.out) hb)
            have n2_ := Aside0.mk (blk_below (g := gb673) (o := .cells #[.int .i64 0, .int .i64 0] 85 (0, 0)) (by (with_reducible repeat (first | refine blk_drewN ?_ _ | refine blk_drew ?_ | refine blk_alloc ?_ _)); exact BK673.out) hb)
            have n3_ := Aside0.mk (below_step (by repeat (first | (with_reducible first | exact HB.out | apply below_alloc | apply pw_below_drewN | apply below_drew1 | refine below_set ?_ GE657.out | refine below_set ?_ GE658.out | refine below_set ?_ GE673.out) | exact HB.out)) hb)
            clear BK657
            clear BK658
            clear BK673
            clear HB
            have BK657 := n0_
            have BK658 := n1_
            have BK673 := n2_
            have HB := n3_
            clear n0_ n1_ n2_ n3_
            (try clear hb)
            (try clear hb2)
            (try clear hk)
            (try clear hi)
            refine hK.out _ _ trivial (fun hHeld => ?_)
            clear hK K
            refine norm_ (a' := ?_) ?_ ?_
            rotate_left
            ·
             show Act.put _ (some 61) _ = _
             simp only [Act.put, List.setIfInBounds_toArray, List.set_cons_zero, List.set_cons_succ, i64_w, i32_w]
             rfl
            refine one_ (i := 8) (N := some 62) #[true, true, true, true, true, true, true, true, true, true, false] rfl rfl (one_of HT_.out (by kernel_rfl)) (by decide) (fun K hK => ?_)
            refine goes_ Tryd.func79 (by kernel_rfl) rfl #[.agg #[.int .i64 t666, .int .i64 t667], .agg #[.int .i64 t669, .int .i64 t670]] (by rfl) rfl rfl (by (try simp only [List.map_toArray, List.map_cons, List.map_nil]); first | done | rfl | (simp only [List.length_drop, List.length_take]; rfl)) ?_
            with_reducible refine (selection_join.calls t666 t667 t669 t670 t671 t672 _ A44.out).mono ?_
            rintro e w54 ⟨rfl, hb⟩
            refine ⟨_, rfl, ?_⟩
            have n0_ := Aside0.mk (blk_below (g := gb657) (o := .cells #[.int .i64 a0_0, .string a0_1, .int .i64 a0_2, .slice A0_3 l0_3.length c0_3] 36 (0, 0)) (by (with_reducible repeat (first | refine blk_drewN ?_ _ | refine blk_drew ?_ | refine blk_alloc ?_ _)); exact BK657.out) hb)
            have n1_ := Aside0.mk (blk_below (g := gb658) (o := .cells #[.slice none 0 0, .int .i64 0, .int .i64 0] 54 (0, 0)) (by (with_reducible repeat (first | refine blk_drewN ?_ _ | refine blk_drew ?_ | refine blk_alloc ?_ _)); exact BK658.out) hb)
            have n2_ := Aside0.mk (blk_below (g := gb673) (o := .cells #[.int .i64 0, .int .i64 0] 85 (0, 0)) (by (with_reducible repeat (first | refine blk_drewN ?_ _ | refine blk_drew ?_ | refine blk_alloc ?_ _)); exact BK673.out) hb)
            have n3_ := Aside0.mk (below_step (by repeat (first | (with_reducible first | exact HB.out | apply below_alloc | apply pw_below_drewN | apply below_drew1 | refine below_set ?_ GE657.out | refine below_set ?_ GE658.out | refine below_set ?_ GE673.out) | exact HB.out)) hb)
            clear BK657
            clear BK658
            clear BK673
            clear HB
            have BK657 := n0_
            have BK658 := n1_
            have BK673 := n2_
            have HB := n3_
            clear n0_ n1_ n2_ n3_
            (try clear hb)
            (try clear hb2)
            (try clear hk)
            (try clear hi)
            refine hK.out _ _ trivial (fun hHeld => ?_)
            clear hK K
            refine norm_ (a' := ?_) ?_ ?_
            rotate_left
            ·
             show Act.put _ (some 62) _ = _
             simp only [Act.put, List.setIfInBounds_toArray, List.set_cons_zero, List.set_cons_succ, i64_w, i32_w]
             rfl
            exact norm_ (by simp only [putAll, Act.put, List.setIfInBounds_toArray, List.set_cons_zero, List.set_cons_succ]) (hCont (gb673) _ ⟨(by (with_reducible repeat (first | refine blk_drewN ?_ _ | refine blk_drew ?_ | refine blk_alloc ?_ _)); exact BK657.out), (by (with_reducible repeat (first | refine blk_drewN ?_ _ | refine blk_drew ?_ | refine blk_alloc ?_ _)); exact BK658.out), (by (with_reducible repeat (first | refine blk_drewN ?_ _ | refine blk_drew ?_ | refine blk_alloc ?_ _)); exact BK673.out), GW673.out, GE673.out, NB657_673.out, NB673_657.out, NB658_673.out, NB673_658.out, (by repeat (first | (with_reducible first | exact HB.out | apply below_alloc | apply pw_below_drewN | apply below_drew1 | refine below_set ?_ GE657.out | refine below_set ?_ GE658.out | refine below_set ?_ GE673.out) | exact HB.out))⟩)
          ·
           skip
           refine box_step ?hg (N := 9) ?hd (cs := #[.int .i64 0, .int .i64 0]) (t := 85) ?hr ?_; (case hd => rfl); (case hg => rfl); (case hr => first | (go_simp; done) | (go_simp; rfl))
           intro gb673 hg w51 hbox hb
           have n0_ := Aside0.mk (blk_below (g := gb657) (o := .cells #[.int .i64 a0_0, .string a0_1, .int .i64 a0_2, .slice A0_3 l0_3.length c0_3] 36 (0, 0)) (by (with_reducible repeat (first | refine blk_drewN ?_ _ | refine blk_drew ?_ | refine blk_alloc ?_ _)); exact BK657.out) hb)
           have n1_ := Aside0.mk (blk_below (g := gb658) (o := .cells #[.slice none 0 0, .int .i64 0, .int .i64 0] 54 (0, 0)) (by (with_reducible repeat (first | refine blk_drewN ?_ _ | refine blk_drew ?_ | refine blk_alloc ?_ _)); exact BK658.out) hb)
           have n2_ := Aside0.mk (below_step (by repeat (first | (with_reducible first | exact HB.out | apply below_alloc | apply pw_below_drewN | apply below_drew1 | refine below_set ?_ GE657.out | refine below_set ?_ GE658.out) | exact HB.out)) hb)
           have n3_ := Aside0.mk (hbox)
           have n4_ := Aside0.mk ((by rw [hg]; exact (below_size (by repeat (first | (with_reducible first | exact HB.out | apply below_alloc | apply pw_below_drewN | apply below_drew1 | refine below_set ?_ GE657.out | refine below_set ?_ GE658.out) | exact HB.out))) : w.heap.size ≤ gb673))
           have n5_ := Aside0.mk ((by rw [hg]; exact (below_size (by repeat (first | (with_reducible first | exact HB.out | apply below_alloc | apply pw_below_drewN | apply below_drew1 | refine below_set ?_ GE657.out | refine below_set ?_ GE658.out) | exact HB.out))) : w.heap.size ≤ gb673))
           have n6_ := Aside0.mk ((by rw [hg]; exact Nat.ne_of_lt (blk_lt (g := gb657) (o := .cells #[.int .i64 a0_0, .string a0_1, .int .i64 a0_2, .slice A0_3 l0_3.length c0_3] 36 (0, 0)) (by (with_reducible repeat (first | refine blk_drewN ?_ _ | refine blk_drew ?_ | refine blk_alloc ?_ _)); exact BK657.out)) : gb657 ≠ gb673))
           have n7_ := Aside0.mk ((by rw [hg]; exact Nat.ne_of_gt (blk_lt (g := gb657) (o := .cells #[.int .i64 a0_0, .string a0_1, .int .i64 a0_2, .slice A0_3 l0_3.length c0_3] 36 (0, 0)) (by (with_reducible repeat (first | refine blk_drewN ?_ _ | refine blk_drew ?_ | refine blk_alloc ?_ _)); exact BK657.out)) : gb673 ≠ gb657))
           have n8_ := Aside0.mk ((by rw [hg]; exact Nat.ne_of_lt (blk_lt (g := gb658) (o := .cells #[.slice none 0 0, .int .i64 0, .int .i64 0] 54 (0, 0)) (by (with_reducible repeat (first | refine blk_drewN ?_ _ | refine blk_drew ?_ | refine blk_alloc ?_ _)); exact BK658.out)) : gb658 ≠ gb673))
           have n9_ := Aside0.mk ((by rw [hg]; exact Nat.ne_of_gt (blk_lt (g := gb658) (o := .cells #[.slice none 0 0, .int .i64 0, .int .i64 0] 54 (0, 0)) (by (with_reducible repeat (first | refine blk_drewN ?_ _ | refine blk_drew ?_ | refine blk_alloc ?_ _)); exact BK658.out)) : gb673 ≠ gb658))
           clear BK657
           clear BK658
           clear HB
           have BK657 := n0_
           have BK658 := n1_
           have HB := n2_
           have BK673 := n3_
           have GW673 := n4_
           have GE673 := n5_
           have NB657_673 := n6_
           have NB673_657 := n7_
           have NB658_673 := n8_
           have NB673_658 := n9_
           clear n0_ n1_ n2_ n3_ n4_ n5_ n6_ n7_ n8_ n9_
           clear hb hbox hg
           refine hK.out _ _ trivial (fun hHeld => ?_)
           clear hK K
           refine norm_ (a' := ?_) ?_ ?_
           rotate_left
           ·
            show Act.put _ (some 9) _ = _
            simp only [Act.put, List.setIfInBounds_toArray, List.set_cons_zero, List.set_cons_succ, i64_w, i32_w]
            rfl
           refine one_ (i := 3) (N := some 57) #[true, true, true, true, true, true, true, false, false, true, false] rfl rfl (one_of HT_.out (by kernel_rfl)) (by decide) (fun K hK => ?_)
           refine goes_ Tryd.func80 (by kernel_rfl) rfl #[.slice A49 (l1.drop (x8_9 : Int).toNat).length (c1 - x8_9.toNat)] (by rfl) rfl rfl (by (try simp only [List.map_toArray, List.map_cons, List.map_nil]); first | done | (rw [show (l1.drop (x8_9 : Int).toNat).length = (l1.length - x8_9.toNat) from List.length_drop] <;> rfl) | rfl | (simp only [List.length_drop, List.length_take]; rfl)) ?_
           with_reducible refine (selection_cover.calls _ _ (l1.drop (x8_9 : Int).toNat) t666 t667 _ ?side1 ?side2 A40.out).mono ?_
           (case side1 => repeat (first | exact (Kd.C_below HR665.out HB.out) | (with_reducible refine Kd.C_alloc ?_ _) | (with_reducible refine Kd.C_drewN ?_ _) | (with_reducible refine Kd.C_drew ?_)))
           (case side2 => exact HC665.out)
           rintro e w52 ⟨rfl, hb⟩
           refine ⟨_, rfl, ?_⟩
           have n0_ := Aside0.mk (blk_below (g := gb657) (o := .cells #[.int .i64 a0_0, .string a0_1, .int .i64 a0_2, .slice A0_3 l0_3.length c0_3] 36 (0, 0)) (by (with_reducible repeat (first | refine blk_drewN ?_ _ | refine blk_drew ?_ | refine blk_alloc ?_ _)); exact BK657.out) hb)
           have n1_ := Aside0.mk (blk_below (g := gb658) (o := .cells #[.slice none 0 0, .int .i64 0, .int .i64 0] 54 (0, 0)) (by (with_reducible repeat (first | refine blk_drewN ?_ _ | refine blk_drew ?_ | refine blk_alloc ?_ _)); exact BK658.out) hb)
           have n2_ := Aside0.mk (blk_below (g := gb673) (o := .cells #[.int .i64 0, .int .i64 0] 85 (0, 0)) (by (with_reducible repeat (first | refine blk_drewN ?_ _ | refine blk_drew ?_ | refine blk_alloc ?_ _)); exact BK673.out) hb)
           have n3_ := Aside0.mk (below_step (by repeat (first | (with_reducible first | exact HB.out | apply below_alloc | apply pw_below_drewN | apply below_drew1 | refine below_set ?_ GE657.out | refine below_set ?_ GE658.out | refine below_set ?_ GE673.out) | exact HB.out)) hb)
           clear BK657
           clear BK658
           clear BK673
           clear HB
           have BK657 := n0_
           have BK658 := n1_
           have BK673 := n2_
           have HB := n3_
           clear n0_ n1_ n2_ n3_
           (try clear hb)
           (try clear hb2)
           (try clear hk)
           (try clear hi)
           refine hK.out _ _ trivial (fun hHeld => ?_)
           clear hK K
           refine norm_ (a' := ?_) ?_ ?_
           rotate_left
           ·
            show Act.put _ (some 57) _ = _
            simp only [Act.put, List.setIfInBounds_toArray, List.set_cons_zero, List.set_cons_succ, i64_w, i32_w]
            rfl
           refine one_ (i := 7) (N := some 61) #[true, true, true, true, true, true, true, true, false, true, false] rfl rfl (one_of HT_.out (by kernel_rfl)) (by decide) (fun K hK => ?_)
           refine goes_ Tryd.func80 (by kernel_rfl) rfl #[.slice A50 (l2.drop (x8_9 : Int).toNat).length (c2 - x8_9.toNat)] (by rfl) rfl rfl (by (try simp only [List.map_toArray, List.map_cons, List.map_nil]); first | done | (rw [show (l2.drop (x8_9 : Int).toNat).length = (l2.length - x8_9.toNat) from List.length_drop] <;> rfl) | rfl | (simp only [List.length_drop, List.length_take]; rfl)) ?_
           with_reducible refine (selection_cover.calls _ _ (l2.drop (x8_9 : Int).toNat) t669 t670 _ ?side1 ?side2 A43.out).mono ?_
           (case side1 => repeat (first | exact (Kd.C_below HR668.out HB.out) | (with_reducible refine Kd.C_alloc ?_ _) | (with_reducible refine Kd.C_drewN ?_ _) | (with_reducible refine Kd.C_drew ?_)))
           (case side2 => exact HC668.out)
           rintro e w53 ⟨rfl, hb⟩
           refine ⟨_, rfl, ?_⟩
           have n0_ := Aside0.mk (blk_below (g := gb657) (o := .cells #[.int .i64 a0_0, .string a0_1, .int .i64 a0_2, .slice A0_3 l0_3.length c0_3] 36 (0, 0)) (by (with_reducible repeat (first | refine blk_drewN ?_ _ | refine blk_drew ?_ | refine blk_alloc ?_ _)); exact BK657.out) hb)
           have n1_ := Aside0.mk (blk_below (g := gb658) (o := .cells #[.slice none 0 0, .int .i64 0, .int .i64 0] 54 (0, 0)) (by (with_reducible repeat (first | refine blk_drewN ?_ _ | refine blk_drew ?_ | refine blk_alloc ?_ _)); exact BK658.out) hb)
           have n2_ := Aside0.mk (blk_below (g := gb673) (o := .cells #[.int .i64 0, .int .i64 0] 85 (0, 0)) (by (with_reducible repeat (first | refine blk_drewN ?_ _ | refine blk_drew ?_ | refine blk_alloc ?_ _)); exact BK673.out) hb)
           have n3_ := Aside0.mk (below_step (by repeat (first | (with_reducible first | exact HB.out | apply below_alloc | apply pw_below_drewN | apply below_drew1 | refine below_set ?_ GE657.out | refine below_set ?_ GE658.out | refine below_set ?_ GE673.out) | exact HB.out)) hb)
           clear BK657
           clear BK658
           clear BK673
           clear HB
           have BK657 := n0_
           have BK658 := n1_
           have BK673 := n2_
           have HB := n3_
           clear n0_ n1_ n2_ n3_
           (try clear hb)
           (try clear hb2)
           (try clear hk)
           (try clear hi)
           refine hK.out _ _ trivial (fun hHeld => ?_)
           clear hK K
           refine norm_ (a' := ?_) ?_ ?_
           rotate_left
           ·
            show Act.put _ (some 61) _ = _
            simp only [Act.put, List.setIfInBounds_toArray, List.set_cons_zero, List.set_cons_succ, i64_w, i32_w]
            rfl
           refine one_ (i := 8) (N := some 62) #[true, true, true, true, true, true, true, true, true, true, false] rfl rfl (one_of HT_.out (by kernel_rfl)) (by decide) (fun K hK => ?_)
           refine goes_ Tryd.func79 (by kernel_rfl) rfl #[.agg #[.int .i64 t666, .int .i64 t667], .agg #[.int .i64 t669, .int .i64 t670]] (by rfl) rfl rfl (by (try simp only [List.map_toArray, List.map_cons, List.map_nil]); first | done | rfl | (simp only [List.length_drop, List.length_take]; rfl)) ?_
           with_reducible refine (selection_join.calls t666 t667 t669 t670 t671 t672 _ A44.out).mono ?_
           rintro e w54 ⟨rfl, hb⟩
           refine ⟨_, rfl, ?_⟩
           have n0_ := Aside0.mk (blk_below (g := gb657) (o := .cells #[.int .i64 a0_0, .string a0_1, .int .i64 a0_2, .slice A0_3 l0_3.length c0_3] 36 (0, 0)) (by (with_reducible repeat (first | refine blk_drewN ?_ _ | refine blk_drew ?_ | refine blk_alloc ?_ _)); exact BK657.out) hb)
           have n1_ := Aside0.mk (blk_below (g := gb658) (o := .cells #[.slice none 0 0, .int .i64 0, .int .i64 0] 54 (0, 0)) (by (with_reducible repeat (first | refine blk_drewN ?_ _ | refine blk_drew ?_ | refine blk_alloc ?_ _)); exact BK658.out) hb)
           have n2_ := Aside0.mk (blk_below (g := gb673) (o := .cells #[.int .i64 0, .int .i64 0] 85 (0, 0)) (by (with_reducible repeat (first | refine blk_drewN ?_ _ | refine blk_drew ?_ | refine blk_alloc ?_ _)); exact BK673.out) hb)
           have n3_ := Aside0.mk (below_step (by repeat (first | (with_reducible first | exact HB.out | apply below_alloc | apply pw_below_drewN | apply below_drew1 | refine below_set ?_ GE657.out | refine below_set ?_ GE658.out | refine below_set ?_ GE673.out) | exact HB.out)) hb)
           clear BK657
           clear BK658
           clear BK673
           clear HB
           have BK657 := n0_
           have BK658 := n1_
           have BK673 := n2_
           have HB := n3_
           clear n0_ n1_ n2_ n3_
           (try clear hb)
           (try clear hb2)
           (try clear hk)
           (try clear hi)
           refine hK.out _ _ trivial (fun hHeld => ?_)
           clear hK K
           refine norm_ (a' := ?_) ?_ ?_
           rotate_left
           ·
            show Act.put _ (some 62) _ = _
            simp only [Act.put, List.setIfInBounds_toArray, List.set_cons_zero, List.set_cons_succ, i64_w, i32_w]
            rfl
           exact norm_ (by simp only [putAll, Act.put, List.setIfInBounds_toArray, List.set_cons_zero, List.set_cons_succ]) (hCont (gb673) _ ⟨(by (with_reducible repeat (first | refine blk_drewN ?_ _ | refine blk_drew ?_ | refine blk_alloc ?_ _)); exact BK657.out), (by (with_reducible repeat (first | refine blk_drewN ?_ _ | refine blk_drew ?_ | refine blk_alloc ?_ _)); exact BK658.out), (by (with_reducible repeat (first | refine blk_drewN ?_ _ | refine blk_drew ?_ | refine blk_alloc ?_ _)); exact BK673.out), GW673.out, GE673.out, NB657_673.out, NB673_657.out, NB658_673.out, NB673_658.out, (by repeat (first | (with_reducible first | exact HB.out | apply below_alloc | apply pw_below_drewN | apply below_drew1 | refine below_set ?_ GE657.out | refine below_set ?_ GE658.out | refine below_set ?_ GE673.out) | exact HB.out))⟩)
         rintro gb673 w55 ⟨h0_, h1_, h2_, h3_, h4_, h5_, h6_, h7_, h8_, h9_⟩
         have n0_ : Aside0 (w55.heap[gb657]? = some (.cells #[.int .i64 a0_0, .string a0_1, .int .i64 a0_2, .slice A0_3 l0_3.length c0_3] 36 (0, 0))) := ⟨h0_⟩
         have n1_ : Aside0 (w55.heap[gb658]? = some (.cells #[.slice none 0 0, .int .i64 0, .int .i64 0] 54 (0, 0))) := ⟨h1_⟩
         have n2_ : Aside0 (w55.heap[gb673]? = some (.cells #[.int .i64 0, .int .i64 0] 85 (0, 0))) := ⟨h2_⟩
         have n3_ : Aside0 (w.heap.size ≤ gb673) := ⟨h3_⟩
         have n4_ : Aside0 (w.heap.size ≤ gb673) := ⟨h4_⟩
         have n5_ : Aside0 (gb657 ≠ gb673) := ⟨h5_⟩
         have n6_ : Aside0 (gb673 ≠ gb657) := ⟨h6_⟩
         have n7_ : Aside0 (gb658 ≠ gb673) := ⟨h7_⟩
         have n8_ : Aside0 (gb673 ≠ gb658) := ⟨h8_⟩
         have n9_ : Aside0 (Below w.heap.size w w55) := ⟨h9_⟩
         clear BK657
         clear BK658
         clear HB
         clear h0_ h1_ h2_ h3_ h4_ h5_ h6_ h7_ h8_ h9_
         have BK657 := n0_
         have BK658 := n1_
         have BK673 := n2_
         have GW673 := n3_
         have GE673 := n4_
         have NB657_673 := n5_
         have NB673_657 := n6_
         have NB658_673 := n7_
         have NB673_658 := n8_
         have HB := n9_
         clear n0_ n1_ n2_ n3_ n4_ n5_ n6_ n7_ n8_ n9_
         have hHeld := trivial
         refine norm_ (a' := ?_) ?_ ?_
         rotate_left
         ·
          simp only [putAll, Act.put, List.setIfInBounds_toArray, List.set_cons_zero, List.set_cons_succ]
          rfl
         refine one_ (i := 10) (N := none) #[true, true, true, true, true, true, true, true, true, true, true] rfl rfl (one_of HT_.out (by kernel_rfl)) (by decide) (fun K hK => ?_)
         have hs56 : w55.cell? ⟨gb673, 0, none⟩ = some (.int .i64 0) := (blk_cell BK673.out 0).trans rfl
         have hfs56 := blk_frozen BK673.out 0
         have hns56_0 := NB657_673.out
         have hns56_1 := NB658_673.out
         have hms56_0 := NB673_657.out
         have hms56_1 := NB673_658.out
         have hs57 : w55.cell? ⟨gb673, 1, none⟩ = some (.int .i64 0) := (blk_cell BK673.out 1).trans rfl
         have hfs57 := blk_frozen BK673.out 1
         have hns57_0 := NB657_673.out
         have hns57_1 := NB658_673.out
         have hms57_0 := NB673_657.out
         have hms57_1 := NB673_658.out
         refine skip_ (w1 := ?_) (by rfl) rfl ?_ ?_
         rotate_left
         ·
          go_simp
          rfl
         refine hK.out _ _ trivial (fun hHeld => ?_)
         clear hK K
         refine done_ (done_of HT_.out (by kernel_rfl)) ?_
         try go_wp2
         have n0_ : Aside0 (((w55.setCell ⟨gb673, 0, none⟩ (.int .i64 t671)).setCell ⟨gb673, 1, none⟩ (.int .i64 t672)).heap[gb657]? = some (.cells #[.int .i64 a0_0, .string a0_1, .int .i64 a0_2, .slice A0_3 l0_3.length c0_3] 36 (0, 0))) := ⟨by (with_reducible repeat (first | refine blk_drewN ?_ _ | refine blk_drew ?_ | refine blk_alloc ?_ _)); refine blk_far ?_ NB657_673.out _; (with_reducible repeat (first | refine blk_drewN ?_ _ | refine blk_drew ?_ | refine blk_alloc ?_ _)); refine blk_far ?_ NB657_673.out _; (with_reducible repeat (first | refine blk_drewN ?_ _ | refine blk_drew ?_ | refine blk_alloc ?_ _)); exact BK657.out⟩
         have n1_ : Aside0 (((w55.setCell ⟨gb673, 0, none⟩ (.int .i64 t671)).setCell ⟨gb673, 1, none⟩ (.int .i64 t672)).heap[gb658]? = some (.cells #[.slice none 0 0, .int .i64 0, .int .i64 0] 54 (0, 0))) := ⟨by (with_reducible repeat (first | refine blk_drewN ?_ _ | refine blk_drew ?_ | refine blk_alloc ?_ _)); refine blk_far ?_ NB658_673.out _; (with_reducible repeat (first | refine blk_drewN ?_ _ | refine blk_drew ?_ | refine blk_alloc ?_ _)); refine blk_far ?_ NB658_673.out _; (with_reducible repeat (first | refine blk_drewN ?_ _ | refine blk_drew ?_ | refine blk_alloc ?_ _)); exact BK658.out⟩
         have n2_ : Aside0 (((w55.setCell ⟨gb673, 0, none⟩ (.int .i64 t671)).setCell ⟨gb673, 1, none⟩ (.int .i64 t672)).heap[gb673]? = some (.cells #[.int .i64 t671, .int .i64 t672] 85 (0, 0))) := ⟨by (with_reducible repeat (first | refine blk_drewN ?_ _ | refine blk_drew ?_ | refine blk_alloc ?_ _)); refine blk_put (cs := #[.int .i64 t671, .int .i64 0]) ?_ 1 _ rfl; (with_reducible repeat (first | refine blk_drewN ?_ _ | refine blk_drew ?_ | refine blk_alloc ?_ _)); refine blk_put (cs := #[.int .i64 0, .int .i64 0]) ?_ 0 _ rfl; (with_reducible repeat (first | refine blk_drewN ?_ _ | refine blk_drew ?_ | refine blk_alloc ?_ _)); exact BK673.out⟩
         have n3_ : Aside0 (Below w.heap.size w ((w55.setCell ⟨gb673, 0, none⟩ (.int .i64 t671)).setCell ⟨gb673, 1, none⟩ (.int .i64 t672))) := ⟨by repeat (first | (with_reducible first | exact HB.out | apply below_alloc | apply pw_below_drewN | apply below_drew1 | refine below_set ?_ GE657.out | refine below_set ?_ GE658.out | refine below_set ?_ GE673.out) | exact HB.out)⟩
         (try clear BK657)
         (try clear BK658)
         (try clear BK673)
         (try clear HB)
         generalize ((w55.setCell ⟨gb673, 0, none⟩ (.int .i64 t671)).setCell ⟨gb673, 1, none⟩ (.int .i64 t672)) = w58 at n0_ n1_ n2_ n3_ ⊢
         have BK657 := n0_
         have BK658 := n1_
         have BK673 := n2_
         have HB := n3_
         clear n0_ n1_ n2_ n3_
         have n0_ := Aside0.mk (blk_drew BK657.out)
         have n1_ := Aside0.mk (blk_drew BK658.out)
         have n2_ := Aside0.mk (blk_drew BK673.out)
         have n3_ := Aside0.mk (below_drew1 HB.out)
         clear BK657
         clear BK658
         clear BK673
         clear HB
         have BK657 := n0_
         have BK658 := n1_
         have BK673 := n2_
         have HB := n3_
         clear n0_ n1_ n2_ n3_
         obtain ⟨i060, hi060, _, hsz60, _⟩ := info_parts info3
         obtain ⟨hcut60, hA60, hC60⟩ := print_take_of (P := Tryd.prog) (Value.int .i64) 0 26 3 .i64 Tryd.underlying26 hi060 hsz60 A1 c1 l1 x8_9 (of_decide_eq_true (by first | (with_reducible assumption) | assumption)) (of_decide_eq_true (by first | (with_reducible assumption) | assumption)) HC1.out
         have HR674 := Aside0.mk (Kd.C_of_reads (h1 := fun _ => rfl) (hA60 _ (Kd.reads_of_C HR1.out)))
         have HC674 := Aside0.mk hC60
         clear hA60 hC60 hi060 hsz60
         refine start_ (n := 11) (S := fun w' => w'.cell? ⟨gb673, 0, none⟩ = some (.int .i64 t671) ∧ w'.cell? ⟨gb673, 1, none⟩ = some (.int .i64 t672)) (ds := []) #[false, false, false, false, false, false, false, false, false, false, false] (by kernel_rfl) rfl rfl ⟨(blk_cell BK673.out 0).trans rfl, (blk_cell BK673.out 1).trans rfl⟩ (fun hHeld => ?_); refine with_tabW selection_Between.tab9 selection_Between.bits9 (fun HT_ HW_ => ?_)
         generalize w58.drew = w59 at BK657 BK658 BK673 HB HR674 hHeld ⊢
         refine pure_ (i := 0) (N := some 63) (v := ?_) (a' := ?_) #[true, false, false, false, false, false, false, false, false, false, false] rfl rfl (any_of HT_.out (by kernel_rfl)) (fun _ _ _ h => h) (Or.inl ⟨by rfl, ?_⟩) ?_ ?_
         rotate_left
         ·
          intro w'
          go_simp
          with_reducible rfl
         rotate_left
         ·
          simp only [Act.put, List.setIfInBounds_toArray, List.set_cons_zero, List.set_cons_succ, i64_w, i32_w]
          rfl
         refine pure_ (i := 1) (N := some 64) (v := ?_) (a' := ?_) #[true, true, false, false, false, false, false, false, false, false, false] rfl rfl (any_of HT_.out (by kernel_rfl)) (fun _ _ _ h => h) (Or.inl ⟨by rfl, ?_⟩) ?_ ?_
         rotate_left
         ·
          intro w'
          go_simp
          with_reducible rfl
         rotate_left
         ·
          simp only [Act.put, List.setIfInBounds_toArray, List.set_cons_zero, List.set_cons_succ, i64_w, i32_w]
          rfl
         refine pure_ (i := 2) (N := some 65) (v := ?_) (a' := ?_) #[true, true, true, false, false, false, false, false, false, false, false] rfl rfl (any_of HT_.out (by kernel_rfl)) (fun _ _ _ h => h) (Or.inl ⟨by rfl, ?_⟩) ?_ ?_
         rotate_left
         ·
          intro w'
          go_simp
          with_reducible rfl
         rotate_left
         ·
          simp only [Act.put, List.setIfInBounds_toArray, List.set_cons_zero, List.set_cons_succ, i64_w, i32_w]
          rfl
         refine pure_ (i := 4) (N := some 67) (v := ?_) (a' := ?_) #[true, true, true, false, true, false, false, false, false, false, false] rfl rfl (any_of HT_.out (by kernel_rfl)) (fun _ _ _ h => h) (Or.inl ⟨by rfl, ?_⟩) ?_ ?_
         rotate_left
         ·
          intro w'
          go_simp
          with_reducible rfl
         rotate_left
         ·
          simp only [Act.put, List.setIfInBounds_toArray, List.set_cons_zero, List.set_cons_succ, i64_w, i32_w]
          rfl
         refine pure_ (i := 6) (N := some 69) (v := ?_) (a' := ?_) #[true, true, true, false, true, false, true, false, false, false, false] rfl rfl (any_of HT_.out (by kernel_rfl)) (fun _ _ _ h => h) (Or.inl ⟨by rfl, ?_⟩) ?_ ?_
         rotate_left
         ·
          intro w'
          go_simp
          with_reducible rfl
         rotate_left
         ·
          simp only [Act.put, List.setIfInBounds_toArray, List.set_cons_zero, List.set_cons_succ, i64_w, i32_w]
          rfl
         refine take_ (i := 5) (N := some 68) (v := ?_) (a' := ?_) #[true, true, true, false, true, true, true, false, false, false, false] rfl rfl (take_ofW HT_.out HW_.out (by kernel_rfl)) (fun _ _ _ h => h) (Or.inl ⟨by rfl, ?_⟩) hHeld ?_ ?_
         rotate_left
         ·
          rintro w' ⟨s0, s1⟩
          go_simp
          with_reducible rfl
         rotate_left
         ·
          simp only [Act.put, List.setIfInBounds_toArray, List.set_cons_zero, List.set_cons_succ, i64_w, i32_w]
          rfl
         refine take_ (i := 7) (N := some 70) (v := ?_) (a' := ?_) #[true, true, true, false, true, true, true, true, false, false, false] rfl rfl (take_ofW HT_.out HW_.out (by kernel_rfl)) (fun _ _ _ h => h) (Or.inl ⟨by rfl, ?_⟩) hHeld ?_ ?_
         rotate_left
         ·
          rintro w' ⟨s0, s1⟩
          go_simp
          with_reducible rfl
         rotate_left
         ·
          simp only [Act.put, List.setIfInBounds_toArray, List.set_cons_zero, List.set_cons_succ, i64_w, i32_w]
          rfl
         refine one_ (i := 3) (N := some 66) #[true, true, true, true, true, true, true, true, false, false, false] rfl rfl (one_of HT_.out (by kernel_rfl)) (by decide) (fun K hK => ?_)
         refine goes_ Tryd.func81 (by kernel_rfl) rfl #[.slice A1 (l1.take (x8_9 : Int).toNat).length c1] (by rfl) rfl rfl (by (try simp only [List.map_toArray, List.map_cons, List.map_nil]); first | done | (rw [show (l1.take (x8_9 : Int).toNat).length = x8_9.toNat from (by rw [List.length_take]; have h_ : (x8_9 : Int) ≤ (l1.length : Int) := of_decide_eq_true (by first | (with_reducible assumption) | assumption); omega)] <;> rfl) | rfl | (simp only [List.length_drop, List.length_take]; rfl)) ?_
         with_reducible refine (slices_Clone_int_int.calls _ _ (l1.take (x8_9 : Int).toNat) t675 _ ?side1 ?side2 A47.out).mono ?_
         (case side1 => repeat (first | exact (Kd.C_below HR674.out HB.out) | (with_reducible refine Kd.C_alloc ?_ _) | (with_reducible refine Kd.C_drewN ?_ _) | (with_reducible refine Kd.C_drew ?_)))
         (case side2 => exact HC674.out)
         rintro e w61 ⟨v676, rfl, ho0, hb⟩
         refine ⟨_, rfl, ?_⟩
         have n0_ := Aside0.mk (Kd.R_lower ho0 (below_size (by repeat (first | (with_reducible first | exact HB.out | apply below_alloc | apply pw_below_drewN | apply below_drew1 | refine below_set ?_ GE657.out | refine below_set ?_ GE658.out | refine below_set ?_ GE673.out) | exact HB.out))))
         have n1_ := Aside0.mk (blk_below (g := gb657) (o := .cells #[.int .i64 a0_0, .string a0_1, .int .i64 a0_2, .slice A0_3 l0_3.length c0_3] 36 (0, 0)) (by (with_reducible repeat (first | refine blk_drewN ?_ _ | refine blk_drew ?_ | refine blk_alloc ?_ _)); exact BK657.out) hb)
         have n2_ := Aside0.mk (blk_below (g := gb658) (o := .cells #[.slice none 0 0, .int .i64 0, .int .i64 0] 54 (0, 0)) (by (with_reducible repeat (first | refine blk_drewN ?_ _ | refine blk_drew ?_ | refine blk_alloc ?_ _)); exact BK658.out) hb)
         have n3_ := Aside0.mk (blk_below (g := gb673) (o := .cells #[.int .i64 t671, .int .i64 t672] 85 (0, 0)) (by (with_reducible repeat (first | refine blk_drewN ?_ _ | refine blk_drew ?_ | refine blk_alloc ?_ _)); exact BK673.out) hb)
         have n4_ := Aside0.mk (below_step (by repeat (first | (with_reducible first | exact HB.out | apply below_alloc | apply pw_below_drewN | apply below_drew1 | refine below_set ?_ GE657.out | refine below_set ?_ GE658.out | refine below_set ?_ GE673.out) | exact HB.out)) hb)
         clear BK657
         clear BK658
         clear BK673
         clear HB
         have HO677 := n0_
         have BK657 := n1_
         have BK658 := n2_
         have BK673 := n3_
         have HB := n4_
         clear n0_ n1_ n2_ n3_ n4_
         (try clear hb)
         (try clear hb2)
         (try clear hk)
         (try clear hi)
         (try clear ho0)
         obtain ⟨Ao62, co62, eo62⟩ := Kd.R_slice HO677.out
         (first | subst eo62 | (injection eo62 with f1_ f2_ f3_; have f4_ := f1_.symm; have f5_ := f3_.symm; clear f1_ f2_ f3_; subst f4_; subst f5_))
         refine hK.out _ _ ⟨(blk_cell BK673.out 0).trans rfl, (blk_cell BK673.out 1).trans rfl⟩ (fun hHeld => ?_)
         clear hK K
         refine norm_ (a' := ?_) ?_ ?_
         rotate_left
         ·
          show Act.put _ (some 66) _ = _
          simp only [Act.put, List.setIfInBounds_toArray, List.set_cons_zero, List.set_cons_succ, i64_w, i32_w]
          rfl
         refine pure_ (i := 8) (N := some 71) (v := ?_) (a' := ?_) #[true, true, true, true, true, true, true, true, true, false, false] rfl rfl (any_of HT_.out (by kernel_rfl)) (fun _ _ _ h => h) (Or.inl ⟨by rfl, ?_⟩) ?_ ?_
         rotate_left
         ·
          intro w'
          go_simp
          with_reducible rfl
         rotate_left
         ·
          simp only [Act.put, List.setIfInBounds_toArray, List.set_cons_zero, List.set_cons_succ, i64_w, i32_w]
          rfl
         refine one_ (i := 9) (N := none) #[true, true, true, true, true, true, true, true, true, true, false] rfl rfl (one_of HT_.out (by kernel_rfl)) (by decide) (fun K hK => ?_)
         have hs63 : w61.cell? ⟨gb658, 0, none⟩ = some (.slice none 0 0) := (blk_cell BK658.out 0).trans rfl
         have hfs63 := blk_frozen BK658.out 0
         have hns63_0 := NB657_658.out
         have hns63_2 := NB673_658.out
         have hms63_0 := NB658_657.out
         have hms63_2 := NB658_673.out
         have hs64 : w61.cell? ⟨gb658, 1, none⟩ = some (.int .i64 0) := (blk_cell BK658.out 1).trans rfl
         have hfs64 := blk_frozen BK658.out 1
         have hns64_0 := NB657_658.out
         have hns64_2 := NB673_658.out
         have hms64_0 := NB658_657.out
         have hms64_2 := NB658_673.out
         have hs65 : w61.cell? ⟨gb658, 2, none⟩ = some (.int .i64 0) := (blk_cell BK658.out 2).trans rfl
         have hfs65 := blk_frozen BK658.out 2
         have hns65_0 := NB657_658.out
         have hns65_2 := NB673_658.out
         have hms65_0 := NB658_657.out
         have hms65_2 := NB658_673.out
         refine skip_ (w1 := ?_) (by rfl) rfl ?_ ?_
         rotate_left
         ·
          go_simp
          rfl
         refine hK.out _ _ ⟨((cell_far (p := ⟨gb658, _, none⟩) NB673_658.out _).trans (((cell_far (p := ⟨gb658, _, none⟩) NB673_658.out _).trans (((cell_far (p := ⟨gb658, _, none⟩) NB673_658.out _).trans (hHeld.1)))))), ((cell_far (p := ⟨gb658, _, none⟩) NB673_658.out _).trans (((cell_far (p := ⟨gb658, _, none⟩) NB673_658.out _).trans (((cell_far (p := ⟨gb658, _, none⟩) NB673_658.out _).trans (hHeld.2))))))⟩ (fun hHeld => ?_)
         clear hK K
         refine pure_ (i := 10) (N := some 7) (v := ?_) (a' := ?_) #[true, true, true, true, true, true, true, true, true, true, true] rfl rfl (any_of HT_.out (by kernel_rfl)) (fun _ _ _ h => h) (Or.inl ⟨by rfl, ?_⟩) ?_ ?_
         rotate_left
         ·
          intro w'
          go_simp
          with_reducible rfl
         rotate_left
         ·
          simp only [Act.put, List.setIfInBounds_toArray, List.set_cons_zero, List.set_cons_succ, i64_w, i32_w]
          rfl
         refine done_ (done_of HT_.out (by kernel_rfl)) ?_
         try go_wp2
         refine bodyPost_ret (results_ct rfl _ _ gb658 54 #[.slice Ao62 t675.length co62, .int .i64 t671, .int .i64 t672] (0, 0) _ rfl (by (with_reducible repeat (first | refine blk_drewN ?_ _ | refine blk_drew ?_ | refine blk_alloc ?_ _)); refine blk_put (cs := #[.slice Ao62 t675.length co62, .int .i64 t671, .int .i64 0]) ?_ 2 _ rfl; (with_reducible repeat (first | refine blk_drewN ?_ _ | refine blk_drew ?_ | refine blk_alloc ?_ _)); refine blk_put (cs := #[.slice Ao62 t675.length co62, .int .i64 0, .int .i64 0]) ?_ 1 _ rfl; (with_reducible repeat (first | refine blk_drewN ?_ _ | refine blk_drew ?_ | refine blk_alloc ?_ _)); refine blk_put (cs := #[.slice none 0 0, .int .i64 0, .int .i64 0]) ?_ 0 _ rfl; (with_reducible repeat (first | refine blk_drewN ?_ _ | refine blk_drew ?_ | refine blk_alloc ?_ _)); exact BK658.out) Tryd.underlying54 rfl (by kernel_rfl)) rfl ?_
         exact ⟨_, by first | rfl | (simp [errW_none, errW_some] <;> rfl) | (simp [*, errW_none, errW_some] <;> rfl), by (with_reducible repeat (first | apply Kd.R_alloc | apply Kd.R_drewN | apply Kd.R_drew)); exact Kd.R_mono (Kd.R_far (p := ⟨gb658, 2, none⟩) (Kd.R_far (p := ⟨gb658, 1, none⟩) (Kd.R_far (p := ⟨gb658, 0, none⟩) (Kd.R_types HO677.out BK658.out (by decide)) (fun _ hk => hk.2) (.slice Ao62 t675.length co62)) (fun _ hk => hk.2) (.int .i64 t671)) (fun _ hk => hk.2) (.int .i64 t672)) (fun _ hk => trivial), by repeat (first | (with_reducible first | exact HB.out | apply below_alloc | apply pw_below_drewN | apply below_drew1 | refine below_set ?_ GE657.out | refine below_set ?_ GE658.out | refine below_set ?_ GE673.out) | exact HB.out)⟩
        ·
         rw [if_neg c42] at H
         exact absurd H (by simp)
       ·
        rw [if_neg c39] at H
        exact absurd H (by simp)
      ·
       rw [if_neg c38] at H
       exact absurd H (by simp)
   ·
    replace c9 := Bool.eq_false_iff.mpr c9
    subst c9
    have H1 : (some (([] : List Int), 0, 0, 2)) = some (r1, r2, r3, r4) := by rw [if_neg (show ¬ (false = true) by decide)] at H; exact H
    clear H
    have H := H1
    clear H1
    simp only [Option.some.injEq, Prod.mk.injEq] at H
    obtain ⟨rfl, rfl, rfl, rfl⟩ := H
    go_enter Tryd.func47, Tryd.ntmps47
    go_wp2_with (first | ((with_reducible refine gate_dst (N := 3) rfl ?_); (try (refine gate_guard (by rfl) ?_; dsimp only)); refine box_event ?hg (N := 3) ?hd (cs := #[.int .i64 a0_0, .string a0_1, .int .i64 a0_2, .slice A0_3 l0_3.length c0_3]) (t := 36) ?hr ?_; (case hd => rfl); (case hg => rfl); (case hr => first | (go_simp; done) | (go_simp; rfl)); intro gb657 hg w66 hbox hb; have n0_ := Aside0.mk (below_step (by repeat (first | (with_reducible first | exact HB.out | apply below_alloc | apply pw_below_drewN | apply below_drew1) | exact HB.out)) hb); have n1_ := Aside0.mk (hbox); have n2_ := Aside0.mk ((by rw [hg]; exact (below_size (by repeat (first | (with_reducible first | exact HB.out | apply below_alloc | apply pw_below_drewN | apply below_drew1) | exact HB.out))) : w.heap.size ≤ gb657)); have n3_ := Aside0.mk ((by rw [hg]; exact (below_size (by repeat (first | (with_reducible first | exact HB.out | apply below_alloc | apply pw_below_drewN | apply below_drew1) | exact HB.out))) : w.heap.size ≤ gb657)); clear HB; have HB := n0_; have BK657 := n1_; have GW657 := n2_; have GE657 := n3_; clear n0_ n1_ n2_ n3_; clear hb hbox hg) | ((with_reducible refine gate_dst (N := 6) rfl ?_); (try (refine gate_guard (by rfl) ?_; dsimp only)); refine box_event ?hg (N := 6) ?hd (cs := #[.slice none 0 0, .int .i64 0, .int .i64 0]) (t := 54) ?hr ?_; (case hd => rfl); (case hg => rfl); (case hr => first | (go_simp; done) | (go_simp; rfl)); intro gb658 hg w67 hbox hb; have n0_ := Aside0.mk (blk_below (g := gb657) (o := .cells #[.int .i64 a0_0, .string a0_1, .int .i64 a0_2, .slice A0_3 l0_3.length c0_3] 36 (0, 0)) (by (with_reducible repeat (first | refine blk_drewN ?_ _ | refine blk_drew ?_ | refine blk_alloc ?_ _)); exact BK657.out) hb); have n1_ := Aside0.mk (below_step (by repeat (first | (with_reducible first | exact HB.out | apply below_alloc | apply pw_below_drewN | apply below_drew1 | refine below_set ?_ GE657.out) | exact HB.out)) hb); have n2_ := Aside0.mk (hbox); have n3_ := Aside0.mk ((by rw [hg]; exact (below_size (by repeat (first | (with_reducible first | exact HB.out | apply below_alloc | apply pw_below_drewN | apply below_drew1 | refine below_set ?_ GE657.out) | exact HB.out))) : w.heap.size ≤ gb658)); have n4_ := Aside0.mk ((by rw [hg]; exact (below_size (by repeat (first | (with_reducible first | exact HB.out | apply below_alloc | apply pw_below_drewN | apply below_drew1 | refine below_set ?_ GE657.out) | exact HB.out))) : w.heap.size ≤ gb658)); have n5_ := Aside0.mk ((by rw [hg]; exact Nat.ne_of_lt (blk_lt (g := gb657) (o := .cells #[.int .i64 a0_0, .string a0_1, .int .i64 a0_2, .slice A0_3 l0_3.length c0_3] 36 (0, 0)) (by (with_reducible repeat (first | refine blk_drewN ?_ _ | refine blk_drew ?_ | refine blk_alloc ?_ _)); exact BK657.out)) : gb657 ≠ gb658)); have n6_ := Aside0.mk ((by rw [hg]; exact Nat.ne_of_gt (blk_lt (g := gb657) (o := .cells #[.int .i64 a0_0, .string a0_1, .int .i64 a0_2, .slice A0_3 l0_3.length c0_3] 36 (0, 0)) (by (with_reducible repeat (first | refine blk_drewN ?_ _ | refine blk_drew ?_ | refine blk_alloc ?_ _)); exact BK657.out)) : gb658 ≠ gb657)); clear BK657; clear HB; have BK657 := n0_; have HB := n1_; have BK658 := n2_; have GW658 := n3_; have GE658 := n4_; have NB657_658 := n5_; have NB658_657 := n6_; clear n0_ n1_ n2_ n3_ n4_ n5_ n6_; clear hb hbox hg; have hnb68 := NB657_658.out; have hnc68 := NB658_657.out; have hcz69_0 : w67.cell? ⟨gb657, 0, none⟩ = some (.int .i64 a0_0) := (blk_cell BK657.out 0).trans rfl; have hcz69_1 : w67.cell? ⟨gb657, 1, none⟩ = some (.string a0_1) := (blk_cell BK657.out 1).trans rfl; have hcz69_2 : w67.cell? ⟨gb657, 2, none⟩ = some (.int .i64 a0_2) := (blk_cell BK657.out 2).trans rfl; have hcz69_3 : w67.cell? ⟨gb657, 3, none⟩ = some (.slice A0_3 l0_3.length c0_3) := (blk_cell BK657.out 3).trans rfl; have hfz69_0 := blk_frozen BK657.out 0; have hfz69_1 := blk_frozen BK657.out 1; have hfz69_2 := blk_frozen BK657.out 2; have hfz69_3 := blk_frozen BK657.out 3) | ((with_reducible refine gate_callee (f := 72) rfl ?_); refine goesL_ (some 12) rfl rfl Tryd.func72 (by kernel_rfl) rfl #[.agg #[.int .i64 a0_0, .string a0_1, .int .i64 a0_2, .slice A0_3 l0_3.length c0_3]] rfl (by (try simp only [List.map_toArray, List.map_cons, List.map_nil]); first | done | rfl | (simp only [List.length_drop, List.length_take]; rfl)) ?_; (with_reducible refine (node_Valid.calls k a0_0 a0_1 a0_2 _ _ l0_3 true _ ?side1 ?side2 A4.out).mono ?_); (case side1 => repeat (first | exact (Kd.C_below HR0_3.out HB.out) | (with_reducible refine Kd.C_alloc ?_ _) | (with_reducible refine Kd.C_drewN ?_ _) | (with_reducible refine Kd.C_drew ?_))); (case side2 => exact HC0_3.out); rintro e w70 ⟨rfl, hb⟩; refine ⟨_, rfl, ?_⟩; have n0_ := Aside0.mk (blk_below (g := gb657) (o := .cells #[.int .i64 a0_0, .string a0_1, .int .i64 a0_2, .slice A0_3 l0_3.length c0_3] 36 (0, 0)) (by (with_reducible repeat (first | refine blk_drewN ?_ _ | refine blk_drew ?_ | refine blk_alloc ?_ _)); exact BK657.out) hb); have n1_ := Aside0.mk (blk_below (g := gb658) (o := .cells #[.slice none 0 0, .int .i64 0, .int .i64 0] 54 (0, 0)) (by (with_reducible repeat (first | refine blk_drewN ?_ _ | refine blk_drew ?_ | refine blk_alloc ?_ _)); exact BK658.out) hb); have n2_ := Aside0.mk (below_step (by repeat (first | (with_reducible first | exact HB.out | apply below_alloc | apply pw_below_drewN | apply below_drew1 | refine below_set ?_ GE657.out | refine below_set ?_ GE658.out) | exact HB.out)) hb); clear BK657; clear BK658; clear HB; have BK657 := n0_; have BK658 := n1_; have HB := n2_; clear n0_ n1_ n2_; (try clear hb); (try clear hb2); (try clear hk); (try clear hi); have hcz71_0 : w70.cell? ⟨gb657, 0, none⟩ = some (.int .i64 a0_0) := (blk_cell BK657.out 0).trans rfl; have hcz71_1 : w70.cell? ⟨gb657, 1, none⟩ = some (.string a0_1) := (blk_cell BK657.out 1).trans rfl; have hcz71_2 : w70.cell? ⟨gb657, 2, none⟩ = some (.int .i64 a0_2) := (blk_cell BK657.out 2).trans rfl; have hcz71_3 : w70.cell? ⟨gb657, 3, none⟩ = some (.slice A0_3 l0_3.length c0_3) := (blk_cell BK657.out 3).trans rfl; have hfz71_0 := blk_frozen BK657.out 0; have hfz71_1 := blk_frozen BK657.out 1; have hfz71_2 := blk_frozen BK657.out 2; have hfz71_3 := blk_frozen BK657.out 3) | ((with_reducible refine gate_callee (f := 41) rfl ?_); refine goesL_ (some 18) rfl rfl Tryd.func41 (by kernel_rfl) rfl #[.agg #[.int .i64 a0_0, .string a0_1, .int .i64 a0_2, .slice A0_3 l0_3.length c0_3], .slice A1 l1.length c1] rfl (by (try simp only [List.map_toArray, List.map_cons, List.map_nil]); first | done | rfl | (simp only [List.length_drop, List.length_take]; rfl)) ?_; (with_reducible refine (position_Valid.calls k a0_0 a0_1 a0_2 _ _ l0_3 _ _ l1 true _ ?side1 ?side2 ?side3 ?side4 A6.out).mono ?_); (case side1 => repeat (first | exact (Kd.C_below HR0_3.out HB.out) | (with_reducible refine Kd.C_alloc ?_ _) | (with_reducible refine Kd.C_drewN ?_ _) | (with_reducible refine Kd.C_drew ?_))); (case side2 => exact HC0_3.out); (case side3 => repeat (first | exact (Kd.C_below HR1.out HB.out) | (with_reducible refine Kd.C_alloc ?_ _) | (with_reducible refine Kd.C_drewN ?_ _) | (with_reducible refine Kd.C_drew ?_))); (case side4 => exact HC1.out); rintro e w72 ⟨rfl, hb⟩; refine ⟨_, rfl, ?_⟩; have n0_ := Aside0.mk (blk_below (g := gb657) (o := .cells #[.int .i64 a0_0, .string a0_1, .int .i64 a0_2, .slice A0_3 l0_3.length c0_3] 36 (0, 0)) (by (with_reducible repeat (first | refine blk_drewN ?_ _ | refine blk_drew ?_ | refine blk_alloc ?_ _)); exact BK657.out) hb); have n1_ := Aside0.mk (blk_below (g := gb658) (o := .cells #[.slice none 0 0, .int .i64 0, .int .i64 0] 54 (0, 0)) (by (with_reducible repeat (first | refine blk_drewN ?_ _ | refine blk_drew ?_ | refine blk_alloc ?_ _)); exact BK658.out) hb); have n2_ := Aside0.mk (below_step (by repeat (first | (with_reducible first | exact HB.out | apply below_alloc | apply pw_below_drewN | apply below_drew1 | refine below_set ?_ GE657.out | refine below_set ?_ GE658.out) | exact HB.out)) hb); clear BK657; clear BK658; clear HB; have BK657 := n0_; have BK658 := n1_; have HB := n2_; clear n0_ n1_ n2_; (try clear hb); (try clear hb2); (try clear hk); (try clear hi); have hcz73_0 : w72.cell? ⟨gb657, 0, none⟩ = some (.int .i64 a0_0) := (blk_cell BK657.out 0).trans rfl; have hcz73_1 : w72.cell? ⟨gb657, 1, none⟩ = some (.string a0_1) := (blk_cell BK657.out 1).trans rfl; have hcz73_2 : w72.cell? ⟨gb657, 2, none⟩ = some (.int .i64 a0_2) := (blk_cell BK657.out 2).trans rfl; have hcz73_3 : w72.cell? ⟨gb657, 3, none⟩ = some (.slice A0_3 l0_3.length c0_3) := (blk_cell BK657.out 3).trans rfl; have hfz73_0 := blk_frozen BK657.out 0; have hfz73_1 := blk_frozen BK657.out 1; have hfz73_2 := blk_frozen BK657.out 2; have hfz73_3 := blk_frozen BK657.out 3) | (go_at_call 41; (with_reducible refine (position_Valid.calls k a0_0 a0_1 a0_2 _ _ l0_3 _ _ l2 false _ ?side1 ?side2 ?side3 ?side4 A8.out).mono ?_); (case side1 => repeat (first | exact (Kd.C_below HR0_3.out HB.out) | (with_reducible refine Kd.C_alloc ?_ _) | (with_reducible refine Kd.C_drewN ?_ _) | (with_reducible refine Kd.C_drew ?_))); (case side2 => exact HC0_3.out); (case side3 => repeat (first | exact (Kd.C_below HR2.out HB.out) | (with_reducible refine Kd.C_alloc ?_ _) | (with_reducible refine Kd.C_drewN ?_ _) | (with_reducible refine Kd.C_drew ?_))); (case side4 => exact HC2.out); rintro e w74 ⟨rfl, hb⟩; have n0_ := Aside0.mk (blk_below (g := gb657) (o := .cells #[.int .i64 a0_0, .string a0_1, .int .i64 a0_2, .slice A0_3 l0_3.length c0_3] 36 (0, 0)) (by (with_reducible repeat (first | refine blk_drewN ?_ _ | refine blk_drew ?_ | refine blk_alloc ?_ _)); exact BK657.out) hb); have n1_ := Aside0.mk (blk_below (g := gb658) (o := .cells #[.slice none 0 0, .int .i64 0, .int .i64 0] 54 (0, 0)) (by (with_reducible repeat (first | refine blk_drewN ?_ _ | refine blk_drew ?_ | refine blk_alloc ?_ _)); exact BK658.out) hb); have n2_ := Aside0.mk (below_step (by repeat (first | (with_reducible first | exact HB.out | apply below_alloc | apply pw_below_drewN | apply below_drew1 | refine below_set ?_ GE657.out | refine below_set ?_ GE658.out) | exact HB.out)) hb); clear BK657; clear BK658; clear HB; have BK657 := n0_; have BK658 := n1_; have HB := n2_; clear n0_ n1_ n2_; (try clear hb); (try clear hb2); (try clear hk); (try clear hi); have hcz75_0 : w74.cell? ⟨gb658, 0, none⟩ = some (.slice none 0 0) := (blk_cell BK658.out 0).trans rfl; have hcz75_1 : w74.cell? ⟨gb658, 1, none⟩ = some (.int .i64 0) := (blk_cell BK658.out 1).trans rfl; have hcz75_2 : w74.cell? ⟨gb658, 2, none⟩ = some (.int .i64 0) := (blk_cell BK658.out 2).trans rfl; have hfz75_0 := blk_frozen BK658.out 0; have hfz75_1 := blk_frozen BK658.out 1; have hfz75_2 := blk_frozen BK658.out 2))
    refine bodyPost_ret (results_ct rfl _ _ gb658 54 #[.slice none 0 0, .int .i64 0, .int .i64 0] (0, 0) _ rfl (by (with_reducible repeat (first | refine blk_drewN ?_ _ | refine blk_drew ?_ | refine blk_alloc ?_ _)); refine blk_put (cs := #[.slice none 0 0, .int .i64 0, .int .i64 0]) ?_ 2 _ rfl; (with_reducible repeat (first | refine blk_drewN ?_ _ | refine blk_drew ?_ | refine blk_alloc ?_ _)); refine blk_put (cs := #[.slice none 0 0, .int .i64 0, .int .i64 0]) ?_ 1 _ rfl; (with_reducible repeat (first | refine blk_drewN ?_ _ | refine blk_drew ?_ | refine blk_alloc ?_ _)); refine blk_put (cs := #[.slice none 0 0, .int .i64 0, .int .i64 0]) ?_ 0 _ rfl; (with_reducible repeat (first | refine blk_drewN ?_ _ | refine blk_drew ?_ | refine blk_alloc ?_ _)); exact BK658.out) Tryd.underlying54 rfl (by kernel_rfl)) rfl ?_
    exact ⟨_, by first | rfl | (simp [errW_none, errW_some] <;> rfl) | (simp [*, errW_none, errW_some] <;> rfl), by first | exact Kd.R_nil _ _ _ _ _ | exact Kd.N_nil _ _ _ _ _ | exact Kd.V_nil _ _ _ _ _ | exact Kd.Q_nil _ _ _ _ _ | exact Kd.S_nil _ _ _ _ _, by repeat (first | (with_reducible first | exact HB.out | apply below_alloc | apply pw_below_drewN | apply below_drew1 | refine below_set ?_ GE657.out | refine below_set ?_ GE658.out) | exact HB.out)⟩
  ·
   replace c7 := Bool.eq_false_iff.mpr c7
   subst c7
   have H1 : (some (([] : List Int), 0, 0, 2)) = some (r1, r2, r3, r4) := by rw [if_neg (show ¬ (false = true) by decide)] at H; exact H
   clear H
   have H := H1
   clear H1
   simp only [Option.some.injEq, Prod.mk.injEq] at H
   obtain ⟨rfl, rfl, rfl, rfl⟩ := H
   go_enter Tryd.func47, Tryd.ntmps47
   go_wp2_with (first | ((with_reducible refine gate_dst (N := 3) rfl ?_); (try (refine gate_guard (by rfl) ?_; dsimp only)); refine box_event ?hg (N := 3) ?hd (cs := #[.int .i64 a0_0, .string a0_1, .int .i64 a0_2, .slice A0_3 l0_3.length c0_3]) (t := 36) ?hr ?_; (case hd => rfl); (case hg => rfl); (case hr => first | (go_simp; done) | (go_simp; rfl)); intro gb657 hg w76 hbox hb; have n0_ := Aside0.mk (below_step (by repeat (first | (with_reducible first | exact HB.out | apply below_alloc | apply pw_below_drewN | apply below_drew1) | exact HB.out)) hb); have n1_ := Aside0.mk (hbox); have n2_ := Aside0.mk ((by rw [hg]; exact (below_size (by repeat (first | (with_reducible first | exact HB.out | apply below_alloc | apply pw_below_drewN | apply below_drew1) | exact HB.out))) : w.heap.size ≤ gb657)); have n3_ := Aside0.mk ((by rw [hg]; exact (below_size (by repeat (first | (with_reducible first | exact HB.out | apply below_alloc | apply pw_below_drewN | apply below_drew1) | exact HB.out))) : w.heap.size ≤ gb657)); clear HB; have HB := n0_; have BK657 := n1_; have GW657 := n2_; have GE657 := n3_; clear n0_ n1_ n2_ n3_; clear hb hbox hg) | ((with_reducible refine gate_dst (N := 6) rfl ?_); (try (refine gate_guard (by rfl) ?_; dsimp only)); refine box_event ?hg (N := 6) ?hd (cs := #[.slice none 0 0, .int .i64 0, .int .i64 0]) (t := 54) ?hr ?_; (case hd => rfl); (case hg => rfl); (case hr => first | (go_simp; done) | (go_simp; rfl)); intro gb658 hg w77 hbox hb; have n0_ := Aside0.mk (blk_below (g := gb657) (o := .cells #[.int .i64 a0_0, .string a0_1, .int .i64 a0_2, .slice A0_3 l0_3.length c0_3] 36 (0, 0)) (by (with_reducible repeat (first | refine blk_drewN ?_ _ | refine blk_drew ?_ | refine blk_alloc ?_ _)); exact BK657.out) hb); have n1_ := Aside0.mk (below_step (by repeat (first | (with_reducible first | exact HB.out | apply below_alloc | apply pw_below_drewN | apply below_drew1 | refine below_set ?_ GE657.out) | exact HB.out)) hb); have n2_ := Aside0.mk (hbox); have n3_ := Aside0.mk ((by rw [hg]; exact (below_size (by repeat (first | (with_reducible first | exact HB.out | apply below_alloc | apply pw_below_drewN | apply below_drew1 | refine below_set ?_ GE657.out) | exact HB.out))) : w.heap.size ≤ gb658)); have n4_ := Aside0.mk ((by rw [hg]; exact (below_size (by repeat (first | (with_reducible first | exact HB.out | apply below_alloc | apply pw_below_drewN | apply below_drew1 | refine below_set ?_ GE657.out) | exact HB.out))) : w.heap.size ≤ gb658)); have n5_ := Aside0.mk ((by rw [hg]; exact Nat.ne_of_lt (blk_lt (g := gb657) (o := .cells #[.int .i64 a0_0, .string a0_1, .int .i64 a0_2, .slice A0_3 l0_3.length c0_3] 36 (0, 0)) (by (with_reducible repeat (first | refine blk_drewN ?_ _ | refine blk_drew ?_ | refine blk_alloc ?_ _)); exact BK657.out)) : gb657 ≠ gb658)); have n6_ := Aside0.mk ((by rw [hg]; exact Nat.ne_of_gt (blk_lt (g := gb657) (o := .cells #[.int .i64 a0_0, .string a0_1, .int .i64 a0_2, .slice A0_3 l0_3.length c0_3] 36 (0, 0)) (by (with_reducible repeat (first | refine blk_drewN ?_ _ | refine blk_drew ?_ | refine blk_alloc ?_ _)); exact BK657.out)) : gb658 ≠ gb657)); clear BK657; clear HB; have BK657 := n0_; have HB := n1_; have BK658 := n2_; have GW658 := n3_; have GE658 := n4_; have NB657_658 := n5_; have NB658_657 := n6_; clear n0_ n1_ n2_ n3_ n4_ n5_ n6_; clear hb hbox hg; have hnb78 := NB657_658.out; have hnc78 := NB658_657.out; have hcz79_0 : w77.cell? ⟨gb657, 0, none⟩ = some (.int .i64 a0_0) := (blk_cell BK657.out 0).trans rfl; have hcz79_1 : w77.cell? ⟨gb657, 1, none⟩ = some (.string a0_1) := (blk_cell BK657.out 1).trans rfl; have hcz79_2 : w77.cell? ⟨gb657, 2, none⟩ = some (.int .i64 a0_2) := (blk_cell BK657.out 2).trans rfl; have hcz79_3 : w77.cell? ⟨gb657, 3, none⟩ = some (.slice A0_3 l0_3.length c0_3) := (blk_cell BK657.out 3).trans rfl; have hfz79_0 := blk_frozen BK657.out 0; have hfz79_1 := blk_frozen BK657.out 1; have hfz79_2 := blk_frozen BK657.out 2; have hfz79_3 := blk_frozen BK657.out 3) | ((with_reducible refine gate_callee (f := 72) rfl ?_); refine goesL_ (some 12) rfl rfl Tryd.func72 (by kernel_rfl) rfl #[.agg #[.int .i64 a0_0, .string a0_1, .int .i64 a0_2, .slice A0_3 l0_3.length c0_3]] rfl (by (try simp only [List.map_toArray, List.map_cons, List.map_nil]); first | done | rfl | (simp only [List.length_drop, List.length_take]; rfl)) ?_; (with_reducible refine (node_Valid.calls k a0_0 a0_1 a0_2 _ _ l0_3 true _ ?side1 ?side2 A4.out).mono ?_); (case side1 => repeat (first | exact (Kd.C_below HR0_3.out HB.out) | (with_reducible refine Kd.C_alloc ?_ _) | (with_reducible refine Kd.C_drewN ?_ _) | (with_reducible refine Kd.C_drew ?_))); (case side2 => exact HC0_3.out); rintro e w80 ⟨rfl, hb⟩; refine ⟨_, rfl, ?_⟩; have n0_ := Aside0.mk (blk_below (g := gb657) (o := .cells #[.int .i64 a0_0, .string a0_1, .int .i64 a0_2, .slice A0_3 l0_3.length c0_3] 36 (0, 0)) (by (with_reducible repeat (first | refine blk_drewN ?_ _ | refine blk_drew ?_ | refine blk_alloc ?_ _)); exact BK657.out) hb); have n1_ := Aside0.mk (blk_below (g := gb658) (o := .cells #[.slice none 0 0, .int .i64 0, .int .i64 0] 54 (0, 0)) (by (with_reducible repeat (first | refine blk_drewN ?_ _ | refine blk_drew ?_ | refine blk_alloc ?_ _)); exact BK658.out) hb); have n2_ := Aside0.mk (below_step (by repeat (first | (with_reducible first | exact HB.out | apply below_alloc | apply pw_below_drewN | apply below_drew1 | refine below_set ?_ GE657.out | refine below_set ?_ GE658.out) | exact HB.out)) hb); clear BK657; clear BK658; clear HB; have BK657 := n0_; have BK658 := n1_; have HB := n2_; clear n0_ n1_ n2_; (try clear hb); (try clear hb2); (try clear hk); (try clear hi); have hcz81_0 : w80.cell? ⟨gb657, 0, none⟩ = some (.int .i64 a0_0) := (blk_cell BK657.out 0).trans rfl; have hcz81_1 : w80.cell? ⟨gb657, 1, none⟩ = some (.string a0_1) := (blk_cell BK657.out 1).trans rfl; have hcz81_2 : w80.cell? ⟨gb657, 2, none⟩ = some (.int .i64 a0_2) := (blk_cell BK657.out 2).trans rfl; have hcz81_3 : w80.cell? ⟨gb657, 3, none⟩ = some (.slice A0_3 l0_3.length c0_3) := (blk_cell BK657.out 3).trans rfl; have hfz81_0 := blk_frozen BK657.out 0; have hfz81_1 := blk_frozen BK657.out 1; have hfz81_2 := blk_frozen BK657.out 2; have hfz81_3 := blk_frozen BK657.out 3) | ((with_reducible refine gate_callee (f := 41) rfl ?_); refine goesL_ (some 18) rfl rfl Tryd.func41 (by kernel_rfl) rfl #[.agg #[.int .i64 a0_0, .string a0_1, .int .i64 a0_2, .slice A0_3 l0_3.length c0_3], .slice A1 l1.length c1] rfl (by (try simp only [List.map_toArray, List.map_cons, List.map_nil]); first | done | rfl | (simp only [List.length_drop, List.length_take]; rfl)) ?_; (with_reducible refine (position_Valid.calls k a0_0 a0_1 a0_2 _ _ l0_3 _ _ l1 false _ ?side1 ?side2 ?side3 ?side4 A6.out).mono ?_); (case side1 => repeat (first | exact (Kd.C_below HR0_3.out HB.out) | (with_reducible refine Kd.C_alloc ?_ _) | (with_reducible refine Kd.C_drewN ?_ _) | (with_reducible refine Kd.C_drew ?_))); (case side2 => exact HC0_3.out); (case side3 => repeat (first | exact (Kd.C_below HR1.out HB.out) | (with_reducible refine Kd.C_alloc ?_ _) | (with_reducible refine Kd.C_drewN ?_ _) | (with_reducible refine Kd.C_drew ?_))); (case side4 => exact HC1.out); rintro e w82 ⟨rfl, hb⟩; refine ⟨_, rfl, ?_⟩; have n0_ := Aside0.mk (blk_below (g := gb657) (o := .cells #[.int .i64 a0_0, .string a0_1, .int .i64 a0_2, .slice A0_3 l0_3.length c0_3] 36 (0, 0)) (by (with_reducible repeat (first | refine blk_drewN ?_ _ | refine blk_drew ?_ | refine blk_alloc ?_ _)); exact BK657.out) hb); have n1_ := Aside0.mk (blk_below (g := gb658) (o := .cells #[.slice none 0 0, .int .i64 0, .int .i64 0] 54 (0, 0)) (by (with_reducible repeat (first | refine blk_drewN ?_ _ | refine blk_drew ?_ | refine blk_alloc ?_ _)); exact BK658.out) hb); have n2_ := Aside0.mk (below_step (by repeat (first | (with_reducible first | exact HB.out | apply below_alloc | apply pw_below_drewN | apply below_drew1 | refine below_set ?_ GE657.out | refine below_set ?_ GE658.out) | exact HB.out)) hb); clear BK657; clear BK658; clear HB; have BK657 := n0_; have BK658 := n1_; have HB := n2_; clear n0_ n1_ n2_; (try clear hb); (try clear hb2); (try clear hk); (try clear hi); have hcz83_0 : w82.cell? ⟨gb658, 0, none⟩ = some (.slice none 0 0) := (blk_cell BK658.out 0).trans rfl; have hcz83_1 : w82.cell? ⟨gb658, 1, none⟩ = some (.int .i64 0) := (blk_cell BK658.out 1).trans rfl; have hcz83_2 : w82.cell? ⟨gb658, 2, none⟩ = some (.int .i64 0) := (blk_cell BK658.out 2).trans rfl; have hfz83_0 := blk_frozen BK658.out 0; have hfz83_1 := blk_frozen BK658.out 1; have hfz83_2 := blk_frozen BK658.out 2))
   refine bodyPost_ret (results_ct rfl _ _ gb658 54 #[.slice none 0 0, .int .i64 0, .int .i64 0] (0, 0) _ rfl (by (with_reducible repeat (first | refine blk_drewN ?_ _ | refine blk_drew ?_ | refine blk_alloc ?_ _)); refine blk_put (cs := #[.slice none 0 0, .int .i64 0, .int .i64 0]) ?_ 2 _ rfl; (with_reducible repeat (first | refine blk_drewN ?_ _ | refine blk_drew ?_ | refine blk_alloc ?_ _)); refine blk_put (cs := #[.slice none 0 0, .int .i64 0, .int .i64 0]) ?_ 1 _ rfl; (with_reducible repeat (first | refine blk_drewN ?_ _ | refine blk_drew ?_ | refine blk_alloc ?_ _)); refine blk_put (cs := #[.slice none 0 0, .int .i64 0, .int .i64 0]) ?_ 0 _ rfl; (with_reducible repeat (first | refine blk_drewN ?_ _ | refine blk_drew ?_ | refine blk_alloc ?_ _)); exact BK658.out) Tryd.underlying54 rfl (by kernel_rfl)) rfl ?_
   exact ⟨_, by first | rfl | (simp [errW_none, errW_some] <;> rfl) | (simp [*, errW_none, errW_some] <;> rfl), by first | exact Kd.R_nil _ _ _ _ _ | exact Kd.N_nil _ _ _ _ _ | exact Kd.V_nil _ _ _ _ _ | exact Kd.Q_nil _ _ _ _ _ | exact Kd.S_nil _ _ _ _ _, by repeat (first | (with_reducible first | exact HB.out | apply below_alloc | apply pw_below_drewN | apply below_drew1 | refine below_set ?_ GE657.out | refine below_set ?_ GE658.out) | exact HB.out)⟩
 ·
  replace c5 := Bool.eq_false_iff.mpr c5
  subst c5
  have H1 : (some (([] : List Int), 0, 0, 1)) = some (r1, r2, r3, r4) := by rw [if_neg (show ¬ (false = true) by decide)] at H; exact H
  clear H
  have H := H1
  clear H1
  simp only [Option.some.injEq, Prod.mk.injEq] at H
  obtain ⟨rfl, rfl, rfl, rfl⟩ := H
  go_enter Tryd.func47, Tryd.ntmps47
  go_wp2_with (first | ((with_reducible refine gate_dst (N := 3) rfl ?_); (try (refine gate_guard (by rfl) ?_; dsimp only)); refine box_event ?hg (N := 3) ?hd (cs := #[.int .i64 a0_0, .string a0_1, .int .i64 a0_2, .slice A0_3 l0_3.length c0_3]) (t := 36) ?hr ?_; (case hd => rfl); (case hg => rfl); (case hr => first | (go_simp; done) | (go_simp; rfl)); intro gb657 hg w84 hbox hb; have n0_ := Aside0.mk (below_step (by repeat (first | (with_reducible first | exact HB.out | apply below_alloc | apply pw_below_drewN | apply below_drew1) | exact HB.out)) hb); have n1_ := Aside0.mk (hbox); have n2_ := Aside0.mk ((by rw [hg]; exact (below_size (by repeat (first | (with_reducible first | exact HB.out | apply below_alloc | apply pw_below_drewN | apply below_drew1) | exact HB.out))) : w.heap.size ≤ gb657)); have n3_ := Aside0.mk ((by rw [hg]; exact (below_size (by repeat (first | (with_reducible first | exact HB.out | apply below_alloc | apply pw_below_drewN | apply below_drew1) | exact HB.out))) : w.heap.size ≤ gb657)); clear HB; have HB := n0_; have BK657 := n1_; have GW657 := n2_; have GE657 := n3_; clear n0_ n1_ n2_ n3_; clear hb hbox hg) | ((with_reducible refine gate_dst (N := 6) rfl ?_); (try (refine gate_guard (by rfl) ?_; dsimp only)); refine box_event ?hg (N := 6) ?hd (cs := #[.slice none 0 0, .int .i64 0, .int .i64 0]) (t := 54) ?hr ?_; (case hd => rfl); (case hg => rfl); (case hr => first | (go_simp; done) | (go_simp; rfl)); intro gb658 hg w85 hbox hb; have n0_ := Aside0.mk (blk_below (g := gb657) (o := .cells #[.int .i64 a0_0, .string a0_1, .int .i64 a0_2, .slice A0_3 l0_3.length c0_3] 36 (0, 0)) (by (with_reducible repeat (first | refine blk_drewN ?_ _ | refine blk_drew ?_ | refine blk_alloc ?_ _)); exact BK657.out) hb); have n1_ := Aside0.mk (below_step (by repeat (first | (with_reducible first | exact HB.out | apply below_alloc | apply pw_below_drewN | apply below_drew1 | refine below_set ?_ GE657.out) | exact HB.out)) hb); have n2_ := Aside0.mk (hbox); have n3_ := Aside0.mk ((by rw [hg]; exact (below_size (by repeat (first | (with_reducible first | exact HB.out | apply below_alloc | apply pw_below_drewN | apply below_drew1 | refine below_set ?_ GE657.out) | exact HB.out))) : w.heap.size ≤ gb658)); have n4_ := Aside0.mk ((by rw [hg]; exact (below_size (by repeat (first | (with_reducible first | exact HB.out | apply below_alloc | apply pw_below_drewN | apply below_drew1 | refine below_set ?_ GE657.out) | exact HB.out))) : w.heap.size ≤ gb658)); have n5_ := Aside0.mk ((by rw [hg]; exact Nat.ne_of_lt (blk_lt (g := gb657) (o := .cells #[.int .i64 a0_0, .string a0_1, .int .i64 a0_2, .slice A0_3 l0_3.length c0_3] 36 (0, 0)) (by (with_reducible repeat (first | refine blk_drewN ?_ _ | refine blk_drew ?_ | refine blk_alloc ?_ _)); exact BK657.out)) : gb657 ≠ gb658)); have n6_ := Aside0.mk ((by rw [hg]; exact Nat.ne_of_gt (blk_lt (g := gb657) (o := .cells #[.int .i64 a0_0, .string a0_1, .int .i64 a0_2, .slice A0_3 l0_3.length c0_3] 36 (0, 0)) (by (with_reducible repeat (first | refine blk_drewN ?_ _ | refine blk_drew ?_ | refine blk_alloc ?_ _)); exact BK657.out)) : gb658 ≠ gb657)); clear BK657; clear HB; have BK657 := n0_; have HB := n1_; have BK658 := n2_; have GW658 := n3_; have GE658 := n4_; have NB657_658 := n5_; have NB658_657 := n6_; clear n0_ n1_ n2_ n3_ n4_ n5_ n6_; clear hb hbox hg; have hnb86 := NB657_658.out; have hnc86 := NB658_657.out; have hcz87_0 : w85.cell? ⟨gb657, 0, none⟩ = some (.int .i64 a0_0) := (blk_cell BK657.out 0).trans rfl; have hcz87_1 : w85.cell? ⟨gb657, 1, none⟩ = some (.string a0_1) := (blk_cell BK657.out 1).trans rfl; have hcz87_2 : w85.cell? ⟨gb657, 2, none⟩ = some (.int .i64 a0_2) := (blk_cell BK657.out 2).trans rfl; have hcz87_3 : w85.cell? ⟨gb657, 3, none⟩ = some (.slice A0_3 l0_3.length c0_3) := (blk_cell BK657.out 3).trans rfl; have hfz87_0 := blk_frozen BK657.out 0; have hfz87_1 := blk_frozen BK657.out 1; have hfz87_2 := blk_frozen BK657.out 2; have hfz87_3 := blk_frozen BK657.out 3) | ((with_reducible refine gate_callee (f := 72) rfl ?_); refine goesL_ (some 12) rfl rfl Tryd.func72 (by kernel_rfl) rfl #[.agg #[.int .i64 a0_0, .string a0_1, .int .i64 a0_2, .slice A0_3 l0_3.length c0_3]] rfl (by (try simp only [List.map_toArray, List.map_cons, List.map_nil]); first | done | rfl | (simp only [List.length_drop, List.length_take]; rfl)) ?_; (with_reducible refine (node_Valid.calls k a0_0 a0_1 a0_2 _ _ l0_3 false _ ?side1 ?side2 A4.out).mono ?_); (case side1 => repeat (first | exact (Kd.C_below HR0_3.out HB.out) | (with_reducible refine Kd.C_alloc ?_ _) | (with_reducible refine Kd.C_drewN ?_ _) | (with_reducible refine Kd.C_drew ?_))); (case side2 => exact HC0_3.out); rintro e w88 ⟨rfl, hb⟩; refine ⟨_, rfl, ?_⟩; have n0_ := Aside0.mk (blk_below (g := gb657) (o := .cells #[.int .i64 a0_0, .string a0_1, .int .i64 a0_2, .slice A0_3 l0_3.length c0_3] 36 (0, 0)) (by (with_reducible repeat (first | refine blk_drewN ?_ _ | refine blk_drew ?_ | refine blk_alloc ?_ _)); exact BK657.out) hb); have n1_ := Aside0.mk (blk_below (g := gb658) (o := .cells #[.slice none 0 0, .int .i64 0, .int .i64 0] 54 (0, 0)) (by (with_reducible repeat (first | refine blk_drewN ?_ _ | refine blk_drew ?_ | refine blk_alloc ?_ _)); exact BK658.out) hb); have n2_ := Aside0.mk (below_step (by repeat (first | (with_reducible first | exact HB.out | apply below_alloc | apply pw_below_drewN | apply below_drew1 | refine below_set ?_ GE657.out | refine below_set ?_ GE658.out) | exact HB.out)) hb); clear BK657; clear BK658; clear HB; have BK657 := n0_; have BK658 := n1_; have HB := n2_; clear n0_ n1_ n2_; (try clear hb); (try clear hb2); (try clear hk); (try clear hi); have hcz89_0 : w88.cell? ⟨gb658, 0, none⟩ = some (.slice none 0 0) := (blk_cell BK658.out 0).trans rfl; have hcz89_1 : w88.cell? ⟨gb658, 1, none⟩ = some (.int .i64 0) := (blk_cell BK658.out 1).trans rfl; have hcz89_2 : w88.cell? ⟨gb658, 2, none⟩ = some (.int .i64 0) := (blk_cell BK658.out 2).trans rfl; have hfz89_0 := blk_frozen BK658.out 0; have hfz89_1 := blk_frozen BK658.out 1; have hfz89_2 := blk_frozen BK658.out 2))
  refine bodyPost_ret (results_ct rfl _ _ gb658 54 #[.slice none 0 0, .int .i64 0, .int .i64 0] (0, 0) _ rfl (by (with_reducible repeat (first | refine blk_drewN ?_ _ | refine blk_drew ?_ | refine blk_alloc ?_ _)); refine blk_put (cs := #[.slice none 0 0, .int .i64 0, .int .i64 0]) ?_ 2 _ rfl; (with_reducible repeat (first | refine blk_drewN ?_ _ | refine blk_drew ?_ | refine blk_alloc ?_ _)); refine blk_put (cs := #[.slice none 0 0, .int .i64 0, .int .i64 0]) ?_ 1 _ rfl; (with_reducible repeat (first | refine blk_drewN ?_ _ | refine blk_drew ?_ | refine blk_alloc ?_ _)); refine blk_put (cs := #[.slice none 0 0, .int .i64 0, .int .i64 0]) ?_ 0 _ rfl; (with_reducible repeat (first | refine blk_drewN ?_ _ | refine blk_drew ?_ | refine blk_alloc ?_ _)); exact BK658.out) Tryd.underlying54 rfl (by kernel_rfl)) rfl ?_
  exact ⟨_, by first | rfl | (simp [errW_none, errW_some] <;> rfl) | (simp [*, errW_none, errW_some] <;> rfl), by first | exact Kd.R_nil _ _ _ _ _ | exact Kd.N_nil _ _ _ _ _ | exact Kd.V_nil _ _ _ _ _ | exact Kd.Q_nil _ _ _ _ _ | exact Kd.S_nil _ _ _ _ _, by repeat (first | (with_reducible first | exact HB.out | apply below_alloc | apply pw_below_drewN | apply below_drew1 | refine below_set ?_ GE657.out | refine below_set ?_ GE658.out) | exact HB.out)⟩
end Go.Proofs.YtagkhoeidjlahaaDoor.G
