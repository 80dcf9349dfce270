-- Written by pack.py, a program of this session: this session's texts and those that the kit's printer wrote for this claim, pruned to what the claim uses.
import Derived.Test.YtagkhoeidjlahaaDoorCPositionNext3
import Derived.Lib.IndexLaws
import Derived.Lib.Strings
import Derived.Lib.SlTrimSet
import Derived.LoopIn
import Derived.LoopNIn
import Derived.Outline
import Derived.OwnWalkIn
import Derived.RangeFuncBound
import Derived.RangeFuncCalls
import Derived.RangeFuncLeaves
import Derived.RangeFuncNested
import Derived.Shelf.Abstract
import Derived.TacticsInMore
namespace Go.Proofs.YtagkhoeidjlahaaDoor.G
open Go.RowKit Go.Proofs.YtagkhoeidjlahaaDoorW.PrintWords Go.Proofs.YtagkhoeidjlahaaDoorW.PrintLast Go.Proofs.YtagkhoeidjlahaaDoorW.PrintMore
attribute [local go_sem] max2_int min2_int max_two min_two max_three min_three max_four min_four
set_option linter.unusedVariables false
set_option linter.unusedSimpArgs false
def vinculumref09_Valid.f (k : Nat) (a0_0 : Int) (a0_1 : ByteArray) (a0_2 : Int) (l0_3 : List (S36)) : Option (Bool) := if a0_0 = 1 then ((vinculumref09_form.f k a0_0 a0_1 a0_2 l0_3).bind fun t260 => (if t260 = true then ((vinculumref09_Count.f k a0_0 a0_1 a0_2 l0_3).bind fun t261 => (if t261 ≤ 1000 then ((vinculumref09_Depth.f k a0_0 a0_1 a0_2 l0_3).bind fun t262 => (some (decide (t262 ≤ 24)))) else (some false))) else (some false))) else (some false)
theorem vinculumref09_Valid.mono : ∀ a0 a1 a2 a3 k, LeO (vinculumref09_Valid.f k a0 a1 a2 a3) (vinculumref09_Valid.f (k + 1) a0 a1 a2 a3) := by
  intro a0 a1 a2 a3 k
  unfold vinculumref09_Valid.f
  repeat' first
      | (with_reducible exact vinculumref09_Count.mono _ _ _ _ _)
      | (with_reducible exact vinculumref09_Depth.mono _ _ _ _ _)
      | (with_reducible exact vinculumref09_form.mono _ _ _ _ _)
      | (with_reducible exact LeO.refl _)
      | (with_reducible exact LeO.none _)
      | (with_reducible refine LeO.ite ?_ ?_)
      | (with_reducible refine LeO.bind ?_ (fun _ => ?_))
      | exact vinculumref09_Count.mono _ _ _ _ _
      | exact vinculumref09_Depth.mono _ _ _ _ _
      | exact vinculumref09_form.mono _ _ _ _ _
      | exact LeO.none _
      | refine LeO.ite ?_ ?_
      | refine LeO.bind ?_ (fun _ => ?_)
set_option maxHeartbeats 8000000 in
set_option maxRecDepth 100000 in
theorem vinculumref09_Valid.calls (k : Nat) (a0_0 : Int) (a0_1 : ByteArray) (a0_2 : Int) (A0_3 : Option Addr) (c0_3 : Nat) (l0_3 : List (S36)) (r : Bool) (w : World) (hr0_3 : Kd.C k36 w A0_3 l0_3.length l0_3) (hc0_3 : l0_3.length ≤ c0_3) (h : vinculumref09_Valid.f k a0_0 a0_1 a0_2 l0_3 = some r) :
    Calls Tryd.prog 68 #[.agg #[.int .i64 a0_0, .string a0_1, .int .i64 a0_2, .slice A0_3 l0_3.length c0_3]] w fun e w' => e = .returned (.bool r) ∧ Below w.heap.size w w' := by
  have hu36 := Tryd.underlying36
  have HR0_3 := Aside0.mk hr0_3
  have HC0_3 := Aside0.mk hc0_3
  clear hr0_3 hc0_3
  have HB := Aside0.mk (Below.refl w.heap.size w)
  have H : (if a0_0 = 1 then ((vinculumref09_form.f k a0_0 a0_1 a0_2 l0_3).bind fun t260 => (if t260 = true then ((vinculumref09_Count.f k a0_0 a0_1 a0_2 l0_3).bind fun t261 => (if t261 ≤ 1000 then ((vinculumref09_Depth.f k a0_0 a0_1 a0_2 l0_3).bind fun t262 => (some (decide (t262 ≤ 24)))) else (some false))) else (some false))) else (some false)) = some r := h
  clear h
  by_cases c2 : a0_0 = 1
  · rw [if_pos c2] at H
    have c2b0 : (a0_0 == 1) = true := beq_iff_eq.mpr c2
    have c2b1 : (a0_0 != 1) = false := bne_eq_false_iff_eq.mpr c2
    clear c2
    replace H := Option.bind_eq_some_iff.mp H
    obtain ⟨t260, A30, H⟩ := H
    replace H : (if t260 = true then ((vinculumref09_Count.f k a0_0 a0_1 a0_2 l0_3).bind fun t261 => (if t261 ≤ 1000 then ((vinculumref09_Depth.f k a0_0 a0_1 a0_2 l0_3).bind fun t262 => (some (decide (t262 ≤ 24)))) else (some false))) else (some false)) = some r := H
    have A3 := Aside0.mk A30
    clear A30
    by_cases c4 : t260 = true
    · subst c4
      have H1 : ((vinculumref09_Count.f k a0_0 a0_1 a0_2 l0_3).bind fun t261 => (if t261 ≤ 1000 then ((vinculumref09_Depth.f k a0_0 a0_1 a0_2 l0_3).bind fun t262 => (some (decide (t262 ≤ 24)))) else (some false))) = some r := by rw [if_pos rfl] at H; exact H
      clear H
      have H := H1
      clear H1
      replace H := Option.bind_eq_some_iff.mp H
      obtain ⟨t261, A50, H⟩ := H
      replace H : (if t261 ≤ 1000 then ((vinculumref09_Depth.f k a0_0 a0_1 a0_2 l0_3).bind fun t262 => (some (decide (t262 ≤ 24)))) else (some false)) = some r := H
      have A5 := Aside0.mk A50
      clear A50
      by_cases c6 : t261 ≤ 1000
      · rw [if_pos c6] at H
        have c6b0 : decide (t261 ≤ 1000) = true := decide_eq_true c6
        clear c6
        replace H := Option.bind_eq_some_iff.mp H
        obtain ⟨t262, A70, H⟩ := H
        replace H : (some (decide (t262 ≤ 24))) = some r := H
        have A7 := Aside0.mk A70
        clear A70
        obtain rfl := Option.some.inj H
        go_enter Tryd.func68, Tryd.ntmps68
        go_wp2_with (first | ((with_reducible refine gate_dst (N := 1) rfl ?_); refine box_event ?hg (N := 1) ?hd (cs := #[.int .i64 a0_0, .string a0_1, .int .i64 a0_2, .slice A0_3 l0_3.length c0_3]) (t := 36) ?hr ?_; (case hd => rfl); (case hg => rfl); (case hr => first | (go_simp; done) | (go_simp; rfl)); intro gb259 hg w8 hbox hb; have n0_ := Aside0.mk (below_step (by repeat (first | (with_reducible first | exact HB.out | apply below_alloc | apply pw_below_drewN | apply below_drew1) | exact HB.out)) hb); have n1_ := Aside0.mk (hbox); have n2_ := Aside0.mk ((by rw [hg]; exact (below_size (by repeat (first | (with_reducible first | exact HB.out | apply below_alloc | apply pw_below_drewN | apply below_drew1) | exact HB.out))) : w.heap.size ≤ gb259)); have n3_ := Aside0.mk ((by rw [hg]; exact (below_size (by repeat (first | (with_reducible first | exact HB.out | apply below_alloc | apply pw_below_drewN | apply below_drew1) | exact HB.out))) : w.heap.size ≤ gb259)); clear HB; have HB := n0_; have BK259 := n1_; have GW259 := n2_; have GE259 := n3_; clear n0_ n1_ n2_ n3_; clear hb hbox hg; have hcz9_0 : w8.cell? ⟨gb259, 0, none⟩ = some (.int .i64 a0_0) := (blk_cell BK259.out 0).trans rfl; have hcz9_1 : w8.cell? ⟨gb259, 1, none⟩ = some (.string a0_1) := (blk_cell BK259.out 1).trans rfl; have hcz9_2 : w8.cell? ⟨gb259, 2, none⟩ = some (.int .i64 a0_2) := (blk_cell BK259.out 2).trans rfl; have hcz9_3 : w8.cell? ⟨gb259, 3, none⟩ = some (.slice A0_3 l0_3.length c0_3) := (blk_cell BK259.out 3).trans rfl; have hfz9_0 := blk_frozen BK259.out 0; have hfz9_1 := blk_frozen BK259.out 1; have hfz9_2 := blk_frozen BK259.out 2; have hfz9_3 := blk_frozen BK259.out 3) | (go_at_call 95; (with_reducible refine (vinculumref09_form.calls k a0_0 a0_1 a0_2 _ _ l0_3 true _ ?side1 ?side2 A3.out).mono ?_); (case side1 => repeat (first | exact (Kd.C_below HR0_3.out HB.out) | (with_reducible refine Kd.C_alloc ?_ _) | (with_reducible refine Kd.C_drewN ?_ _) | (with_reducible refine Kd.C_drew ?_))); (case side2 => exact HC0_3.out); rintro e w10 ⟨rfl, hb⟩; have n0_ := Aside0.mk (blk_below (g := gb259) (o := .cells #[.int .i64 a0_0, .string a0_1, .int .i64 a0_2, .slice A0_3 l0_3.length c0_3] 36 (0, 0)) (by (with_reducible repeat (first | refine blk_drewN ?_ _ | refine blk_drew ?_ | refine blk_alloc ?_ _)); exact BK259.out) hb); have n1_ := Aside0.mk (below_step (by repeat (first | (with_reducible first | exact HB.out | apply below_alloc | apply pw_below_drewN | apply below_drew1 | refine below_set ?_ GE259.out) | exact HB.out)) hb); clear BK259; clear HB; have BK259 := n0_; have HB := n1_; clear n0_ n1_; (try clear hb); (try clear hb2); (try clear hk); (try clear hi); have hcz11_0 : w10.cell? ⟨gb259, 0, none⟩ = some (.int .i64 a0_0) := (blk_cell BK259.out 0).trans rfl; have hcz11_1 : w10.cell? ⟨gb259, 1, none⟩ = some (.string a0_1) := (blk_cell BK259.out 1).trans rfl; have hcz11_2 : w10.cell? ⟨gb259, 2, none⟩ = some (.int .i64 a0_2) := (blk_cell BK259.out 2).trans rfl; have hcz11_3 : w10.cell? ⟨gb259, 3, none⟩ = some (.slice A0_3 l0_3.length c0_3) := (blk_cell BK259.out 3).trans rfl; have hfz11_0 := blk_frozen BK259.out 0; have hfz11_1 := blk_frozen BK259.out 1; have hfz11_2 := blk_frozen BK259.out 2; have hfz11_3 := blk_frozen BK259.out 3) | (go_at_call 96; (with_reducible refine (vinculumref09_Count.calls k a0_0 a0_1 a0_2 _ _ l0_3 t261 _ ?side1 ?side2 A5.out).mono ?_); (case side1 => repeat (first | exact (Kd.C_below HR0_3.out HB.out) | (with_reducible refine Kd.C_alloc ?_ _) | (with_reducible refine Kd.C_drewN ?_ _) | (with_reducible refine Kd.C_drew ?_))); (case side2 => exact HC0_3.out); rintro e w12 ⟨rfl, hb⟩; have n0_ := Aside0.mk (blk_below (g := gb259) (o := .cells #[.int .i64 a0_0, .string a0_1, .int .i64 a0_2, .slice A0_3 l0_3.length c0_3] 36 (0, 0)) (by (with_reducible repeat (first | refine blk_drewN ?_ _ | refine blk_drew ?_ | refine blk_alloc ?_ _)); exact BK259.out) hb); have n1_ := Aside0.mk (below_step (by repeat (first | (with_reducible first | exact HB.out | apply below_alloc | apply pw_below_drewN | apply below_drew1 | refine below_set ?_ GE259.out) | exact HB.out)) hb); clear BK259; clear HB; have BK259 := n0_; have HB := n1_; clear n0_ n1_; (try clear hb); (try clear hb2); (try clear hk); (try clear hi); have hcz13_0 : w12.cell? ⟨gb259, 0, none⟩ = some (.int .i64 a0_0) := (blk_cell BK259.out 0).trans rfl; have hcz13_1 : w12.cell? ⟨gb259, 1, none⟩ = some (.string a0_1) := (blk_cell BK259.out 1).trans rfl; have hcz13_2 : w12.cell? ⟨gb259, 2, none⟩ = some (.int .i64 a0_2) := (blk_cell BK259.out 2).trans rfl; have hcz13_3 : w12.cell? ⟨gb259, 3, none⟩ = some (.slice A0_3 l0_3.length c0_3) := (blk_cell BK259.out 3).trans rfl; have hfz13_0 := blk_frozen BK259.out 0; have hfz13_1 := blk_frozen BK259.out 1; have hfz13_2 := blk_frozen BK259.out 2; have hfz13_3 := blk_frozen BK259.out 3) | (go_at_call 97; (with_reducible refine (vinculumref09_Depth.calls k a0_0 a0_1 a0_2 _ _ l0_3 t262 _ ?side1 ?side2 A7.out).mono ?_); (case side1 => repeat (first | exact (Kd.C_below HR0_3.out HB.out) | (with_reducible refine Kd.C_alloc ?_ _) | (with_reducible refine Kd.C_drewN ?_ _) | (with_reducible refine Kd.C_drew ?_))); (case side2 => exact HC0_3.out); rintro e w14 ⟨rfl, hb⟩; have n0_ := Aside0.mk (blk_below (g := gb259) (o := .cells #[.int .i64 a0_0, .string a0_1, .int .i64 a0_2, .slice A0_3 l0_3.length c0_3] 36 (0, 0)) (by (with_reducible repeat (first | refine blk_drewN ?_ _ | refine blk_drew ?_ | refine blk_alloc ?_ _)); exact BK259.out) hb); have n1_ := Aside0.mk (below_step (by repeat (first | (with_reducible first | exact HB.out | apply below_alloc | apply pw_below_drewN | apply below_drew1 | refine below_set ?_ GE259.out) | exact HB.out)) hb); clear BK259; clear HB; have BK259 := n0_; have HB := n1_; clear n0_ n1_; (try clear hb); (try clear hb2); (try clear hk); (try clear hi)))
        go_ret
        exact ⟨by first | rfl | (simp [errW_none, errW_some] <;> rfl) | (simp [*, errW_none, errW_some] <;> rfl), by repeat (first | (with_reducible first | exact HB.out | apply below_alloc | apply pw_below_drewN | apply below_drew1 | refine below_set ?_ GE259.out) | exact HB.out)⟩
      · rw [if_neg c6] at H
        have c6b0 : decide (t261 ≤ 1000) = false := decide_eq_false c6
        clear c6
        obtain rfl := Option.some.inj H
        go_enter Tryd.func68, Tryd.ntmps68
        go_wp2_with (first | ((with_reducible refine gate_dst (N := 1) rfl ?_); refine box_event ?hg (N := 1) ?hd (cs := #[.int .i64 a0_0, .string a0_1, .int .i64 a0_2, .slice A0_3 l0_3.length c0_3]) (t := 36) ?hr ?_; (case hd => rfl); (case hg => rfl); (case hr => first | (go_simp; done) | (go_simp; rfl)); intro gb259 hg w15 hbox hb; have n0_ := Aside0.mk (below_step (by repeat (first | (with_reducible first | exact HB.out | apply below_alloc | apply pw_below_drewN | apply below_drew1) | exact HB.out)) hb); have n1_ := Aside0.mk (hbox); have n2_ := Aside0.mk ((by rw [hg]; exact (below_size (by repeat (first | (with_reducible first | exact HB.out | apply below_alloc | apply pw_below_drewN | apply below_drew1) | exact HB.out))) : w.heap.size ≤ gb259)); have n3_ := Aside0.mk ((by rw [hg]; exact (below_size (by repeat (first | (with_reducible first | exact HB.out | apply below_alloc | apply pw_below_drewN | apply below_drew1) | exact HB.out))) : w.heap.size ≤ gb259)); clear HB; have HB := n0_; have BK259 := n1_; have GW259 := n2_; have GE259 := n3_; clear n0_ n1_ n2_ n3_; clear hb hbox hg; have hcz16_0 : w15.cell? ⟨gb259, 0, none⟩ = some (.int .i64 a0_0) := (blk_cell BK259.out 0).trans rfl; have hcz16_1 : w15.cell? ⟨gb259, 1, none⟩ = some (.string a0_1) := (blk_cell BK259.out 1).trans rfl; have hcz16_2 : w15.cell? ⟨gb259, 2, none⟩ = some (.int .i64 a0_2) := (blk_cell BK259.out 2).trans rfl; have hcz16_3 : w15.cell? ⟨gb259, 3, none⟩ = some (.slice A0_3 l0_3.length c0_3) := (blk_cell BK259.out 3).trans rfl; have hfz16_0 := blk_frozen BK259.out 0; have hfz16_1 := blk_frozen BK259.out 1; have hfz16_2 := blk_frozen BK259.out 2; have hfz16_3 := blk_frozen BK259.out 3) | (go_at_call 95; (with_reducible refine (vinculumref09_form.calls k a0_0 a0_1 a0_2 _ _ l0_3 true _ ?side1 ?side2 A3.out).mono ?_); (case side1 => repeat (first | exact (Kd.C_below HR0_3.out HB.out) | (with_reducible refine Kd.C_alloc ?_ _) | (with_reducible refine Kd.C_drewN ?_ _) | (with_reducible refine Kd.C_drew ?_))); (case side2 => exact HC0_3.out); rintro e w17 ⟨rfl, hb⟩; have n0_ := Aside0.mk (blk_below (g := gb259) (o := .cells #[.int .i64 a0_0, .string a0_1, .int .i64 a0_2, .slice A0_3 l0_3.length c0_3] 36 (0, 0)) (by (with_reducible repeat (first | refine blk_drewN ?_ _ | refine blk_drew ?_ | refine blk_alloc ?_ _)); exact BK259.out) hb); have n1_ := Aside0.mk (below_step (by repeat (first | (with_reducible first | exact HB.out | apply below_alloc | apply pw_below_drewN | apply below_drew1 | refine below_set ?_ GE259.out) | exact HB.out)) hb); clear BK259; clear HB; have BK259 := n0_; have HB := n1_; clear n0_ n1_; (try clear hb); (try clear hb2); (try clear hk); (try clear hi); have hcz18_0 : w17.cell? ⟨gb259, 0, none⟩ = some (.int .i64 a0_0) := (blk_cell BK259.out 0).trans rfl; have hcz18_1 : w17.cell? ⟨gb259, 1, none⟩ = some (.string a0_1) := (blk_cell BK259.out 1).trans rfl; have hcz18_2 : w17.cell? ⟨gb259, 2, none⟩ = some (.int .i64 a0_2) := (blk_cell BK259.out 2).trans rfl; have hcz18_3 : w17.cell? ⟨gb259, 3, none⟩ = some (.slice A0_3 l0_3.length c0_3) := (blk_cell BK259.out 3).trans rfl; have hfz18_0 := blk_frozen BK259.out 0; have hfz18_1 := blk_frozen BK259.out 1; have hfz18_2 := blk_frozen BK259.out 2; have hfz18_3 := blk_frozen BK259.out 3) | (go_at_call 96; (with_reducible refine (vinculumref09_Count.calls k a0_0 a0_1 a0_2 _ _ l0_3 t261 _ ?side1 ?side2 A5.out).mono ?_); (case side1 => repeat (first | exact (Kd.C_below HR0_3.out HB.out) | (with_reducible refine Kd.C_alloc ?_ _) | (with_reducible refine Kd.C_drewN ?_ _) | (with_reducible refine Kd.C_drew ?_))); (case side2 => exact HC0_3.out); rintro e w19 ⟨rfl, hb⟩; have n0_ := Aside0.mk (blk_below (g := gb259) (o := .cells #[.int .i64 a0_0, .string a0_1, .int .i64 a0_2, .slice A0_3 l0_3.length c0_3] 36 (0, 0)) (by (with_reducible repeat (first | refine blk_drewN ?_ _ | refine blk_drew ?_ | refine blk_alloc ?_ _)); exact BK259.out) hb); have n1_ := Aside0.mk (below_step (by repeat (first | (with_reducible first | exact HB.out | apply below_alloc | apply pw_below_drewN | apply below_drew1 | refine below_set ?_ GE259.out) | exact HB.out)) hb); clear BK259; clear HB; have BK259 := n0_; have HB := n1_; clear n0_ n1_; (try clear hb); (try clear hb2); (try clear hk); (try clear hi)))
        go_ret
        exact ⟨by first | rfl | (simp [errW_none, errW_some] <;> rfl) | (simp [*, errW_none, errW_some] <;> rfl), by repeat (first | (with_reducible first | exact HB.out | apply below_alloc | apply pw_below_drewN | apply below_drew1 | refine below_set ?_ GE259.out) | exact HB.out)⟩
    · replace c4 := Bool.eq_false_iff.mpr c4
      subst c4
      have H1 : (some false) = some r := by rw [if_neg (show ¬ (false = true) by decide)] at H; exact H
      clear H
      have H := H1
      clear H1
      obtain rfl := Option.some.inj H
      go_enter Tryd.func68, Tryd.ntmps68
      go_wp2_with (first | ((with_reducible refine gate_dst (N := 1) rfl ?_); refine box_event ?hg (N := 1) ?hd (cs := #[.int .i64 a0_0, .string a0_1, .int .i64 a0_2, .slice A0_3 l0_3.length c0_3]) (t := 36) ?hr ?_; (case hd => rfl); (case hg => rfl); (case hr => first | (go_simp; done) | (go_simp; rfl)); intro gb259 hg w20 hbox hb; have n0_ := Aside0.mk (below_step (by repeat (first | (with_reducible first | exact HB.out | apply below_alloc | apply pw_below_drewN | apply below_drew1) | exact HB.out)) hb); have n1_ := Aside0.mk (hbox); have n2_ := Aside0.mk ((by rw [hg]; exact (below_size (by repeat (first | (with_reducible first | exact HB.out | apply below_alloc | apply pw_below_drewN | apply below_drew1) | exact HB.out))) : w.heap.size ≤ gb259)); have n3_ := Aside0.mk ((by rw [hg]; exact (below_size (by repeat (first | (with_reducible first | exact HB.out | apply below_alloc | apply pw_below_drewN | apply below_drew1) | exact HB.out))) : w.heap.size ≤ gb259)); clear HB; have HB := n0_; have BK259 := n1_; have GW259 := n2_; have GE259 := n3_; clear n0_ n1_ n2_ n3_; clear hb hbox hg; have hcz21_0 : w20.cell? ⟨gb259, 0, none⟩ = some (.int .i64 a0_0) := (blk_cell BK259.out 0).trans rfl; have hcz21_1 : w20.cell? ⟨gb259, 1, none⟩ = some (.string a0_1) := (blk_cell BK259.out 1).trans rfl; have hcz21_2 : w20.cell? ⟨gb259, 2, none⟩ = some (.int .i64 a0_2) := (blk_cell BK259.out 2).trans rfl; have hcz21_3 : w20.cell? ⟨gb259, 3, none⟩ = some (.slice A0_3 l0_3.length c0_3) := (blk_cell BK259.out 3).trans rfl; have hfz21_0 := blk_frozen BK259.out 0; have hfz21_1 := blk_frozen BK259.out 1; have hfz21_2 := blk_frozen BK259.out 2; have hfz21_3 := blk_frozen BK259.out 3) | (go_at_call 95; (with_reducible refine (vinculumref09_form.calls k a0_0 a0_1 a0_2 _ _ l0_3 false _ ?side1 ?side2 A3.out).mono ?_); (case side1 => repeat (first | exact (Kd.C_below HR0_3.out HB.out) | (with_reducible refine Kd.C_alloc ?_ _) | (with_reducible refine Kd.C_drewN ?_ _) | (with_reducible refine Kd.C_drew ?_))); (case side2 => exact HC0_3.out); rintro e w22 ⟨rfl, hb⟩; have n0_ := Aside0.mk (blk_below (g := gb259) (o := .cells #[.int .i64 a0_0, .string a0_1, .int .i64 a0_2, .slice A0_3 l0_3.length c0_3] 36 (0, 0)) (by (with_reducible repeat (first | refine blk_drewN ?_ _ | refine blk_drew ?_ | refine blk_alloc ?_ _)); exact BK259.out) hb); have n1_ := Aside0.mk (below_step (by repeat (first | (with_reducible first | exact HB.out | apply below_alloc | apply pw_below_drewN | apply below_drew1 | refine below_set ?_ GE259.out) | exact HB.out)) hb); clear BK259; clear HB; have BK259 := n0_; have HB := n1_; clear n0_ n1_; (try clear hb); (try clear hb2); (try clear hk); (try clear hi)))
      go_ret
      exact ⟨by first | rfl | (simp [errW_none, errW_some] <;> rfl) | (simp [*, errW_none, errW_some] <;> rfl), by repeat (first | (with_reducible first | exact HB.out | apply below_alloc | apply pw_below_drewN | apply below_drew1 | refine below_set ?_ GE259.out) | exact HB.out)⟩
  · rw [if_neg c2] at H
    have c2b0 : (a0_0 == 1) = false := beq_eq_false_iff_ne.mpr c2
    have c2b1 : (a0_0 != 1) = true := bne_iff_ne.mpr c2
    obtain rfl := Option.some.inj H
    go_enter Tryd.func68, Tryd.ntmps68
    go_wp2_with (first | ((with_reducible refine gate_dst (N := 1) rfl ?_); refine box_event ?hg (N := 1) ?hd (cs := #[.int .i64 a0_0, .string a0_1, .int .i64 a0_2, .slice A0_3 l0_3.length c0_3]) (t := 36) ?hr ?_; (case hd => rfl); (case hg => rfl); (case hr => first | (go_simp; done) | (go_simp; rfl)); intro gb259 hg w23 hbox hb; have n0_ := Aside0.mk (below_step (by repeat (first | (with_reducible first | exact HB.out | apply below_alloc | apply pw_below_drewN | apply below_drew1) | exact HB.out)) hb); have n1_ := Aside0.mk (hbox); have n2_ := Aside0.mk ((by rw [hg]; exact (below_size (by repeat (first | (with_reducible first | exact HB.out | apply below_alloc | apply pw_below_drewN | apply below_drew1) | exact HB.out))) : w.heap.size ≤ gb259)); have n3_ := Aside0.mk ((by rw [hg]; exact (below_size (by repeat (first | (with_reducible first | exact HB.out | apply below_alloc | apply pw_below_drewN | apply below_drew1) | exact HB.out))) : w.heap.size ≤ gb259)); clear HB; have HB := n0_; have BK259 := n1_; have GW259 := n2_; have GE259 := n3_; clear n0_ n1_ n2_ n3_; clear hb hbox hg; have hcz24_0 : w23.cell? ⟨gb259, 0, none⟩ = some (.int .i64 a0_0) := (blk_cell BK259.out 0).trans rfl; have hcz24_1 : w23.cell? ⟨gb259, 1, none⟩ = some (.string a0_1) := (blk_cell BK259.out 1).trans rfl; have hcz24_2 : w23.cell? ⟨gb259, 2, none⟩ = some (.int .i64 a0_2) := (blk_cell BK259.out 2).trans rfl; have hcz24_3 : w23.cell? ⟨gb259, 3, none⟩ = some (.slice A0_3 l0_3.length c0_3) := (blk_cell BK259.out 3).trans rfl; have hfz24_0 := blk_frozen BK259.out 0; have hfz24_1 := blk_frozen BK259.out 1; have hfz24_2 := blk_frozen BK259.out 2; have hfz24_3 := blk_frozen BK259.out 3))
    go_ret
    exact ⟨by first | rfl | (simp [errW_none, errW_some] <;> rfl) | (simp [*, errW_none, errW_some] <;> rfl), by repeat (first | (with_reducible first | exact HB.out | apply below_alloc | apply pw_below_drewN | apply below_drew1 | refine below_set ?_ GE259.out) | exact HB.out)⟩
end Go.Proofs.YtagkhoeidjlahaaDoor.G
namespace Go.Proofs.YtagkhoeidjlahaaDoor.G.Pure
open Go.Proofs.YtagkhoeidjlahaaDoorW.PrintWords Go.RowKit
set_option linter.unusedVariables false
set_option linter.unusedSimpArgs false
theorem ev_some {α : Type} {a : Option α} {r : α} (h : a = some r) : Ev (fun _ => a) r := ⟨0, fun _ _ => h⟩
theorem ev_now {α : Type} {a r : α} (h : a = r) : Ev (fun _ => some a) r := ⟨0, fun _ _ => by rw [h]⟩
theorem ev_if {α : Type} {c : Prop} [Decidable c] {g f : Nat → Option α} {r : α} (h : c → Ev g r) (k : ¬ c → Ev f r) : Ev (fun n => if c then g n else f n) r := by
  by_cases hc : c
  · obtain ⟨K, h⟩ := h hc; exact ⟨K, fun n hn => (if_pos hc).trans (h n hn)⟩
  · obtain ⟨K, k⟩ := k hc; exact ⟨K, fun n hn => (if_neg hc).trans (k n hn)⟩
theorem ev_bind {α β : Type} {g : Nat → Option α} {f : Nat → α → Option β} {a : α} {r : β} (h : Ev g a) (k : Ev (fun n => f n a) r) : Ev (fun n => (g n).bind (f n)) r := Ev.bind h k
def M : Nat := 9223372036854775807
theorem wr {n : Int} (h : -9223372036854775808 ≤ n ∧ n ≤ 9223372036854775807) : wrap64 n = n := by unfold wrap64; omega
def L (s : ByteArray) : List UInt8 := s.data.toList
theorem L_length (s : ByteArray) : (L s).length = s.size := rfl
theorem toList_L (s : ByteArray) : s.toList = L s := ByteArray.toList_eq s
theorem bt_L (s : ByteArray) (i : Nat) (h : i < s.size) : bt s i = (((L s)[i]'(by rw [L_length]; exact h)).toNat : Int) := by
  simp [bt, h, L]
  rfl
def letB (c : Int) : Bool := (decide (97 ≤ c) && decide (c ≤ 122)) || (decide (65 ≤ c) && decide (c ≤ 90))
theorem letter_eq (c : Int) : node_letter.f c = some (letB c) := by
  unfold node_letter.f letB
  simp only [ge_iff_le]
  by_cases h1 : 97 ≤ c <;> by_cases h2 : c ≤ 122 <;> by_cases h3 : 65 ≤ c <;> by_cases h4 : c ≤ 90 <;> simp [h1, h2, h3, h4] <;> omega
theorem Letter_eq (c : Int) : vinculumref09_Letter.f c = some (letB c) := letter_eq c
def hasB (s : ByteArray) (c : Int) : Bool := (L s).any fun b => (b.toNat : Int) == c
theorem has_l (s : ByteArray) (c : Int) (hs : s.size ≤ M) : ∀ (m i : Nat), s.size - i = m → Ev (fun k => vinculumref09_has.l0 k s c i) (((L s).drop i).any fun b => (b.toNat : Int) == c) := by
  intro m
  induction m with
  | zero =>
    intro i hi
    refine Ev.step (fun k => by rw [vinculumref09_has.l0]) ?_
    refine ev_if (fun h => by omega) fun _ => ev_now ?_
    rw [List.drop_eq_nil_of_le (by rw [L_length]; omega)]; rfl
  | succ m ih =>
    intro i hi
    unfold M at hs
    refine Ev.step (fun k => by rw [vinculumref09_has.l0]) ?_
    refine ev_if (fun _ => ?_) fun h => by omega
    refine ev_if (fun _ => ?_) fun h => by omega
    rw [List.drop_eq_getElem_cons (by rw [L_length]; omega), List.any_cons, bt_L s i (by omega)]
    refine ev_if (fun h => ev_now ?_) fun h => ?_
    · simp [h]
    · rw [wr (n := (i : Int) + 1) (by omega)]
      have := ih (i + 1) (by omega)
      rw [beq_eq_false_iff_ne.2 h, Bool.false_or]
      exact_mod_cast this
theorem has_ev (s : ByteArray) (c : Int) (hs : s.size ≤ M) : Ev (fun k => vinculumref09_has.f k s c) (hasB s c) := by
  have := has_l s c hs s.size 0 rfl
  simpa [vinculumref09_has.f, hasB] using this
def inB (l : List ByteArray) (s : ByteArray) : Bool := l.any fun a => a.toList == s.toList
theorem rdOf_at (l : List ByteArray) (i : Nat) (h : i < l.length) : rdOf ByteArray.empty l i = l[i] := by simp [rdOf, h]
theorem In_l (l : List ByteArray) (s : ByteArray) (hl : l.length ≤ M) : ∀ (m i : Nat), l.length - i = m → Ev (fun k => vinculumref09_In.l0 k l s i) ((l.drop i).any fun a => a.toList == s.toList) := by
  intro m
  induction m with
  | zero =>
    intro i hi
    refine Ev.step (fun k => by rw [vinculumref09_In.l0]) ?_
    refine ev_if (fun h => by omega) fun _ => ev_now ?_
    rw [List.drop_eq_nil_of_le (by omega)]; rfl
  | succ m ih =>
    intro i hi
    unfold M at hl
    refine Ev.step (fun k => by rw [vinculumref09_In.l0]) ?_
    refine ev_if (fun _ => ?_) fun h => by omega
    refine ev_if (fun _ => ?_) fun h => by omega
    rw [List.drop_eq_getElem_cons (by omega), List.any_cons, rdOf_at l i (by omega)]
    refine ev_if (fun h => ev_now ?_) fun h => ?_
    · simp [h]
    · rw [wr (n := (i : Int) + 1) (by omega)]
      have := ih (i + 1) (by omega)
      rw [beq_eq_false_iff_ne.2 h, Bool.false_or]
      exact_mod_cast this
theorem In_ev (l : List ByteArray) (s : ByteArray) (hl : l.length ≤ M) : Ev (fun k => vinculumref09_In.f k l s) (inB l s) := by
  have := In_l l s hl l.length 0 rfl
  simpa [vinculumref09_In.f, inB] using this
theorem Idx_l (l : List ByteArray) (s : ByteArray) (hl : l.length ≤ M) : ∀ (m i : Nat), l.length - i = m → ∃ j, Ev (fun k => slices_Index_string_string.l0 k l s l.length i) j ∧ decide (j ≥ 0) = ((l.drop i).any fun a => a.toList == s.toList) := by
  intro m
  induction m with
  | zero =>
    intro i hi
    refine ⟨-1, Ev.step (fun k => by rw [slices_Index_string_string.l0]) ?_, ?_⟩
    · refine ev_if (fun h => by omega) fun _ => ev_now rfl
    · rw [List.drop_eq_nil_of_le (by omega)]; rfl
  | succ m ih =>
    intro i hi
    unfold M at hl
    rw [List.drop_eq_getElem_cons (by omega), List.any_cons]
    by_cases h : s.toList = l[i].toList
    · refine ⟨i, Ev.step (fun k => by rw [slices_Index_string_string.l0]) ?_, by simp [h]⟩
      refine ev_if (fun _ => ?_) fun h => by omega
      refine ev_if (fun _ => ?_) fun h => by omega
      refine ev_if (fun _ => ?_) fun h => by omega
      rw [rdOf_at l i (by omega)]
      exact ev_if (fun _ => ev_now rfl) fun h' => absurd h h'
    · obtain ⟨j, hj, hd⟩ := ih (i + 1) (by omega)
      refine ⟨j, Ev.step (fun k => by rw [slices_Index_string_string.l0]) ?_, ?_⟩
      · refine ev_if (fun _ => ?_) fun h => by omega
        refine ev_if (fun _ => ?_) fun h => by omega
        refine ev_if (fun _ => ?_) fun h => by omega
        rw [rdOf_at l i (by omega)]
        refine ev_if (fun h' => absurd h' h) fun _ => ?_
        rw [wr (n := (i : Int) + 1) (by omega)]
        exact_mod_cast hj
      · rw [hd, beq_eq_false_iff_ne.2 (fun e => h e.symm), Bool.false_or]
theorem Contains_ev (l : List ByteArray) (s : ByteArray) (hl : l.length ≤ M) : Ev (fun k => slices_Contains_string_string.f k l s) (inB l s) := by
  obtain ⟨j, hj, hd⟩ := Idx_l l s hl l.length 0 rfl
  unfold slices_Contains_string_string.f slices_Index_string_string.f
  refine ev_bind (by simpa using hj) (ev_now ?_)
  rw [hd]; simp [inB]
def kws : List ByteArray := [⟨#[102, 114, 97, 99]⟩, ⟨#[114, 111, 111, 116]⟩, ⟨#[109, 97, 116, 114, 105, 120]⟩, ⟨#[102, 101, 110, 99, 101]⟩]
def accs : List ByteArray := [⟨#[104, 97, 116]⟩, ⟨#[98, 97, 114]⟩, ⟨#[118, 101, 99]⟩, ⟨#[100, 111, 116]⟩, ⟨#[116, 105, 108, 100, 101]⟩, ⟨#[99, 104, 101, 99, 107]⟩]
def plus : ByteArray := ⟨#[43, 45, 42, 47, 61, 60, 62, 44, 59, 58, 33, 124, 39, 63, 126, 64]⟩
theorem idx_ge : ∀ (l : List UInt8) (c : UInt8), decide (Lib.indexByte l c ≥ 0) = l.any fun b => (b.toNat : Int) == (c.toNat : Int)
  | [], c => by simp [Lib.indexByte]
  | b :: l, c => by
    rw [Lib.indexByte, List.any_cons, ← idx_ge l c]
    by_cases h : b = c
    · subst h; simp
    · have h2 : ((b.toNat : Int) == (c.toNat : Int)) = false := by
        rw [beq_eq_false_iff_ne]
        intro e
        exact h (UInt8.toNat_inj.1 (by omega))
      rw [h2, if_neg (by simpa using h), Bool.false_or]
      have := Lib.indexByte_ge l c
      split
      · rename_i h3
        have : Lib.indexByte l c = -1 := by simpa using h3
        rw [this]
      · rename_i h3
        have : Lib.indexByte l c ≠ -1 := by simpa using h3
        simp only [decide_eq_decide]
        omega
theorem one_byte {s : ByteArray} (h : s.size = 1) : ∃ c, L s = [c] ∧ bt s 0 = (c.toNat : Int) := by
  have hl := L_length s
  rw [h] at hl
  obtain ⟨c, hc⟩ := List.length_eq_one_iff.1 hl
  refine ⟨c, hc, ?_⟩
  have := bt_L s 0 (by omega)
  simp only [Int.ofNat_zero, hc] at this
  exact this
theorem Contains1 (a0 a1 : ByteArray) (h : a1.size = 1) : strings_Contains.f a0 a1 = some (hasB a0 (bt a1 0)) := by
  obtain ⟨c, hc, hb⟩ := one_byte h
  unfold strings_Contains.f strings_Index.f stringslite_Index.f
  rw [show a1.data.toList = [c] from hc, hb]
  simp only [Option.bind_some]
  rw [idx_ge]
  rfl
def allLet (l : List UInt8) : Bool := l.all fun b => letB (b.toNat : Int)
theorem nSym_l (s : ByteArray) (hs : s.size ≤ M) : ∀ (m i : Nat), s.size - i = m → Ev (fun k => node_Symbol.l0 k s s.size i) (allLet ((L s).drop i)) := by
  intro m
  induction m with
  | zero =>
    intro i hi
    refine Ev.step (fun k => by rw [node_Symbol.l0]) ?_
    refine ev_if (fun h => by omega) fun _ => ev_now ?_
    rw [List.drop_eq_nil_of_le (by rw [L_length]; omega)]; rfl
  | succ m ih =>
    intro i hi
    unfold M at hs
    refine Ev.step (fun k => by rw [node_Symbol.l0]) ?_
    refine ev_if (fun _ => ?_) fun h => by omega
    refine ev_if (fun _ => ?_) fun h => by omega
    refine ev_if (fun _ => ?_) fun h => by omega
    rw [allLet, List.drop_eq_getElem_cons (by rw [L_length]; omega), List.all_cons, bt_L s i (by omega), letter_eq]
    refine ev_bind (Ev.now _) ?_
    refine ev_if (fun h => ?_) fun h => ev_now ?_
    · rw [wr (n := (i : Int) + 1) (by omega), h, Bool.true_and]
      have := ih (i + 1) (by omega)
      exact_mod_cast this
    · rw [Bool.not_eq_true] at h; rw [h, Bool.false_and]
theorem rSym_l (s : ByteArray) (hs : s.size ≤ M) : ∀ (m i : Nat), s.size - i = m → Ev (fun k => vinculumref09_Symbol.l0 k s i) (allLet ((L s).drop i) && (decide (2 ≤ s.size) && decide (s.size ≤ 16) && !inB kws s && !inB accs s)) := by
  intro m
  induction m with
  | zero =>
    intro i hi
    refine Ev.step (fun k => by rw [vinculumref09_Symbol.l0]) ?_
    refine ev_if (fun h => by omega) fun _ => ?_
    rw [List.drop_eq_nil_of_le (by rw [L_length]; omega), show allLet [] = true from rfl, Bool.true_and]
    refine ev_if (fun h1 => ?_) fun h1 => ev_now ?_
    · refine ev_if (fun h2 => ?_) fun h2 => ev_now ?_
      · have e1 : decide (2 ≤ s.size) = true := decide_eq_true (by omega)
        have e2 : decide (s.size ≤ 16) = true := decide_eq_true (by omega)
        rw [e1, e2]
        refine ev_bind (ev_some (show vinculumref09_Keywords.f = some kws from rfl)) ?_
        refine ev_bind (In_ev kws s (by decide)) ?_
        refine ev_if (fun h => ev_now ?_) fun h => ?_
        · rw [h]; rfl
        · rw [Bool.not_eq_true] at h
          refine ev_bind (ev_some (show vinculumref09_Accents.f = some accs from rfl)) ?_
          refine ev_bind (In_ev accs s (by decide)) (ev_now ?_)
          rw [h]; rfl
      · rw [decide_eq_false (show ¬ s.size ≤ 16 by omega)]; simp
    · rw [decide_eq_false (show ¬ 2 ≤ s.size by omega)]; simp
  | succ m ih =>
    intro i hi
    unfold M at hs
    refine Ev.step (fun k => by rw [vinculumref09_Symbol.l0]) ?_
    refine ev_if (fun _ => ?_) fun h => by omega
    refine ev_if (fun _ => ?_) fun h => by omega
    rw [allLet, List.drop_eq_getElem_cons (by rw [L_length]; omega), List.all_cons, bt_L s i (by omega), Letter_eq]
    refine ev_bind (Ev.now _) ?_
    refine ev_if (fun h => ?_) fun h => ev_now ?_
    · rw [wr (n := (i : Int) + 1) (by omega), h, Bool.true_and]
      have := ih (i + 1) (by omega)
      exact_mod_cast this
    · rw [Bool.not_eq_true] at h; rw [h, Bool.false_and, Bool.false_and]
def symB (s : ByteArray) : Bool := if s.size = 1 then (letB (bt s 0) || hasB plus (bt s 0)) else allLet (L s) && (decide (2 ≤ s.size) && decide (s.size ≤ 16) && !inB kws s && !inB accs s)
theorem nSym_ev (s : ByteArray) (hs : s.size ≤ M) : Ev (fun k => node_Symbol.f k s) (symB s) := by
  unfold node_Symbol.f symB
  refine ev_if (fun h => ?_) fun h => ?_
  · refine ev_if (fun _ => ?_) fun h => by omega
    rw [letter_eq, if_pos (by omega : s.size = 1)]
    refine ev_bind (Ev.now _) ?_
    refine ev_if (fun h1 => ev_now ?_) fun h1 => ?_
    · rw [h1]; rfl
    · rw [Bool.not_eq_true] at h1
      have := Contains1 plus s (by omega)
      refine ev_bind (ev_some this) (ev_now ?_)
      rw [h1]; rfl
  · rw [if_neg (by omega : ¬ s.size = 1)]
    have j0t : Ev (fun k => node_Symbol.j0 k s true) false := Ev.step (fun k => by rw [node_Symbol.j0]) (ev_if (fun _ => ev_now rfl) fun h => absurd rfl h)
    refine ev_if (fun h1 => ?_) fun h1 => ?_
    · rw [decide_eq_false (show ¬ 2 ≤ s.size by omega)]; simpa using j0t
    · refine ev_if (fun h2 => ?_) fun h2 => ?_
      · rw [decide_eq_false (show ¬ s.size ≤ 16 by omega)]; simpa using j0t
      · rw [decide_eq_true (show 2 ≤ s.size by omega), decide_eq_true (show s.size ≤ 16 by omega)]
        have hacc : Ev (fun k => node_accent.f k s) (inB accs s) := by
          unfold node_accent.f
          exact ev_bind (Contains_ev accs s (by decide)) (Ev.now _)
        refine ev_bind hacc ?_
        refine ev_if (fun h3 => ?_) fun h3 => ?_
        · rw [h3]; simpa using j0t
        · rw [Bool.not_eq_true] at h3
          refine ev_bind (Contains_ev kws s (by decide)) ?_
          rw [h3]
          refine Ev.step (fun k => by rw [node_Symbol.j0]) ?_
          refine ev_if (fun h4 => ev_now ?_) fun h4 => ?_
          · rw [h4]; simp
          · rw [Bool.not_eq_true] at h4
            rw [h4]
            have := nSym_l s hs s.size 0 rfl
            simpa using this
theorem char_ev (s : ByteArray) (c : Int) : Ev (fun k => vinculumref09_Character.f k c) (letB c || hasB plus c) := by
  unfold vinculumref09_Character.f
  rw [Letter_eq]
  refine ev_bind (Ev.now _) ?_
  refine ev_if (fun h => ev_now ?_) fun h => ?_
  · rw [h]; rfl
  · rw [Bool.not_eq_true] at h
    rw [h, Bool.false_or]
    exact ev_bind (has_ev plus c (by decide)) (Ev.now _)
theorem rSym_ev (s : ByteArray) (hs : s.size ≤ M) : Ev (fun k => vinculumref09_Symbol.f k s) (symB s) := by
  unfold vinculumref09_Symbol.f symB
  refine ev_if (fun h => ?_) fun h => ?_
  · refine ev_if (fun _ => ?_) fun h => by omega
    rw [if_pos (by omega : s.size = 1)]
    exact ev_bind (char_ev s _) (Ev.now _)
  · rw [if_neg (by omega : ¬ s.size = 1)]
    have := rSym_l s hs s.size 0 rfl
    simpa using this
def priB (l : List UInt8) : Bool := l.all fun b => decide (32 ≤ b.toNat) && decide (b.toNat ≤ 126)
theorem nPri_l (s : ByteArray) (hs : s.size ≤ M) : ∀ (m i : Nat), s.size - i = m → Ev (fun k => node_printable.l0 k s s.size i) (priB ((L s).drop i) && decide (s.size ≤ 200)) := by
  intro m
  induction m with
  | zero =>
    intro i hi
    refine Ev.step (fun k => by rw [node_printable.l0]) ?_
    refine ev_if (fun h => by omega) fun _ => ev_now ?_
    rw [List.drop_eq_nil_of_le (by rw [L_length]; omega), show priB [] = true from rfl, Bool.true_and, decide_eq_decide]
    omega
  | succ m ih =>
    intro i hi
    unfold M at hs
    refine Ev.step (fun k => by rw [node_printable.l0]) ?_
    refine ev_if (fun _ => ?_) fun h => by omega
    refine ev_if (fun _ => ?_) fun h => by omega
    refine ev_if (fun _ => ?_) fun h => by omega
    rw [priB, List.drop_eq_getElem_cons (by rw [L_length]; omega), List.all_cons, bt_L s i (by omega)]
    refine ev_if (fun h => ev_now ?_) fun h => ?_
    · rw [decide_eq_false (show ¬ 32 ≤ ((L s)[i]'(by rw [L_length]; omega)).toNat by omega)]; simp
    · refine ev_if (fun h2 => ev_now ?_) fun h2 => ?_
      · rw [decide_eq_false (show ¬ ((L s)[i]'(by rw [L_length]; omega)).toNat ≤ 126 by omega)]; simp
      · rw [decide_eq_true (show 32 ≤ ((L s)[i]'(by rw [L_length]; omega)).toNat by omega), decide_eq_true (show ((L s)[i]'(by rw [L_length]; omega)).toNat ≤ 126 by omega), Bool.true_and, Bool.true_and, wr (n := (i : Int) + 1) (by omega)]
        have := ih (i + 1) (by omega)
        exact_mod_cast this
theorem rPri_l (s : ByteArray) (hs : s.size ≤ M) : ∀ (m i : Nat), s.size - i = m → Ev (fun k => vinculumref09_Printable.l0 k s i) (priB ((L s).drop i)) := by
  intro m
  induction m with
  | zero =>
    intro i hi
    refine Ev.step (fun k => by rw [vinculumref09_Printable.l0]) ?_
    refine ev_if (fun h => by omega) fun _ => ev_now ?_
    rw [List.drop_eq_nil_of_le (by rw [L_length]; omega)]; rfl
  | succ m ih =>
    intro i hi
    unfold M at hs
    refine Ev.step (fun k => by rw [vinculumref09_Printable.l0]) ?_
    refine ev_if (fun _ => ?_) fun h => by omega
    refine ev_if (fun _ => ?_) fun h => by omega
    rw [priB, List.drop_eq_getElem_cons (by rw [L_length]; omega), List.all_cons, bt_L s i (by omega)]
    refine ev_if (fun h => ev_now ?_) fun h => ?_
    · rw [decide_eq_false (show ¬ 32 ≤ ((L s)[i]'(by rw [L_length]; omega)).toNat by omega)]; simp
    · refine ev_if (fun h2 => ev_now ?_) fun h2 => ?_
      · rw [decide_eq_false (show ¬ ((L s)[i]'(by rw [L_length]; omega)).toNat ≤ 126 by omega)]; simp
      · rw [decide_eq_true (show 32 ≤ ((L s)[i]'(by rw [L_length]; omega)).toNat by omega), decide_eq_true (show ((L s)[i]'(by rw [L_length]; omega)).toNat ≤ 126 by omega), Bool.true_and, Bool.true_and, wr (n := (i : Int) + 1) (by omega)]
        have := ih (i + 1) (by omega)
        exact_mod_cast this
end Go.Proofs.YtagkhoeidjlahaaDoor.G.Pure
namespace Go.Proofs.YtagkhoeidjlahaaDoor.G.Pure
open Go.Proofs.YtagkhoeidjlahaaDoorW.PrintWords Go.RowKit
set_option linter.unusedVariables false
set_option linter.unusedSimpArgs false
theorem dropWhile_bad {α : Type} {p : α → Bool} : ∀ {l : List α}, l.dropWhile p ≠ [] → ∃ b ∈ l.dropWhile p, p b = false
  | [], h => absurd rfl h
  | a :: l, h => by
    rw [List.dropWhile_cons] at h ⊢
    split at h
    · rename_i hp
      rw [if_pos hp]
      exact dropWhile_bad h
    · rename_i hp
      rw [if_neg hp]
      exact ⟨a, by simp, by simpa using hp⟩
theorem takeWhile_mem {α : Type} {p : α → Bool} {b : α} : ∀ {l : List α}, b ∈ l.takeWhile p → p b = true
  | [], h => by simp at h
  | a :: l, h => by
    rw [List.takeWhile_cons] at h
    split at h
    · rename_i hp
      rcases List.mem_cons.1 h with rfl | h
      · exact hp
      · exact takeWhile_mem h
    · simp at h
theorem dropWhile_all {α : Type} {p : α → Bool} : ∀ {l : List α}, (∀ b ∈ l, p b = true) → l.dropWhile p = []
  | [], _ => rfl
  | a :: l, h => by
    rw [List.dropWhile_cons, if_pos (h a (by simp))]
    exact dropWhile_all fun b hb => h b (by simp [hb])
theorem trimS_nil (l cs : List UInt8) : (Lib.trimS l cs).isEmpty = l.all (cs.contains ·) := by
  unfold Lib.trimS Lib.trimLeftS Lib.trimRightS
  by_cases h : l.all (cs.contains ·) = true
  · rw [h, dropWhile_all (l := l.reverse) (fun b hb => by simpa using List.all_eq_true.1 h b (by simpa using hb))]
    rfl
  · have hne : l.reverse.dropWhile (cs.contains ·) ≠ [] := by
      intro e
      refine h (List.all_eq_true.2 fun b hb => ?_)
      have := List.takeWhile_append_dropWhile (p := (cs.contains ·)) (l := l.reverse)
      rw [e, List.append_nil] at this
      have hb' : b ∈ l.reverse.takeWhile (cs.contains ·) := by rw [this]; simpa using hb
      exact takeWhile_mem hb'
    obtain ⟨b, hb, hp⟩ := dropWhile_bad hne
    have h2 : (l.reverse.dropWhile (cs.contains ·)).reverse.dropWhile (cs.contains ·) ≠ [] := by
      intro e
      have := List.takeWhile_append_dropWhile (p := (cs.contains ·)) (l := (l.reverse.dropWhile (cs.contains ·)).reverse)
      rw [e, List.append_nil] at this
      have hb' : b ∈ (l.reverse.dropWhile (cs.contains ·)).reverse.takeWhile (cs.contains ·) := by rw [this]; simpa using hb
      have := takeWhile_mem hb'
      rw [hp] at this
      cases this
    rw [Bool.not_eq_true] at h
    rw [h]
    cases hd : (l.reverse.dropWhile (cs.contains ·)).reverse.dropWhile (cs.contains ·) with
    | nil => exact absurd hd h2
    | cons a t => rfl
def digI (b : UInt8) : Bool := decide (48 ≤ b.toNat) && decide (b.toNat ≤ 57)
set_option maxRecDepth 100000 in
theorem dig_small : ∀ n < 256, ([48, 49, 50, 51, 52, 53, 54, 55, 56, 57] : List UInt8).contains (UInt8.ofNat n) = (decide (48 ≤ n) && decide (n ≤ 57)) := by decide
theorem dig_contains (b : UInt8) : ([48, 49, 50, 51, 52, 53, 54, 55, 56, 57] : List UInt8).contains b = digI b := by
  have := dig_small b.toNat b.toNat_lt
  rw [UInt8.ofNat_toNat] at this
  exact this
def digs (l : List UInt8) : Bool := !l.isEmpty && l.all digI
theorem digits_eq (a : ByteArray) (ha : a.size ≤ M) : node_digits.f a = some (digs (L a)) := by
  unfold node_digits.f strings_Trim.f digs
  rw [toList_L]
  by_cases h : L a = []
  · rw [if_pos h, h]; rfl
  · rw [if_neg h, if_pos ⟨ha, by decide, by decide⟩]
    simp only [Option.bind_some]
    rw [toList_L]
    have e : L ⟨(Lib.trimS a.data.toList (ByteArray.mk #[48, 49, 50, 51, 52, 53, 54, 55, 56, 57]).data.toList).toArray⟩ = Lib.trimS (L a) [48, 49, 50, 51, 52, 53, 54, 55, 56, 57] := by simp [L]
    rw [e]
    have h1 := trimS_nil (L a) [48, 49, 50, 51, 52, 53, 54, 55, 56, 57]
    have h2 : (L a).isEmpty = false := by simpa using h
    rw [h2]
    have h3 : ∀ t : List UInt8, (t == []) = t.isEmpty := fun t => by cases t <;> rfl
    rw [h3, h1]
    simp only [dig_contains]
    rfl
def numB (l : List UInt8) : Bool := decide (l.length ≤ 20) && (if 0 ≤ Lib.indexByte l 46 then digs (l.take (Lib.indexByte l 46).toNat) && digs (l.drop ((Lib.indexByte l 46).toNat + 1)) else digs l)
theorem idx_lt : ∀ (l : List UInt8) (c : UInt8), Lib.indexByte l c < l.length
  | [], c => by simp [Lib.indexByte]
  | b :: l, c => by
    rw [Lib.indexByte]
    have := idx_lt l c
    simp only [List.length_cons]
    split
    · omega
    · split <;> omega
theorem nNum_eq (a : ByteArray) (ha : a.size ≤ M) : node_Number.f a = some (numB (L a)) := by
  unfold node_Number.f numB
  rw [L_length]
  by_cases h20 : (a.size : Int) > 20
  · rw [if_pos h20, decide_eq_false (show ¬ a.size ≤ 20 by omega)]; rfl
  · rw [if_neg h20, decide_eq_true (show a.size ≤ 20 by omega), Bool.true_and]
    unfold strings_Cut.f stringslite_Cut.f stringslite_Index.f
    rw [show (ByteArray.mk #[46]).data.toList = [46] from rfl]
    simp only [Option.bind_some, show a.data.toList = L a from rfl]
    have hlt := idx_lt (L a) 46
    rw [L_length] at hlt
    have h1 : ((ByteArray.mk #[46]).size : Int) = 1 := rfl
    by_cases hi : Lib.indexByte (L a) 46 ≥ 0
    · rw [if_pos hi, if_pos hi, if_pos (by omega), h1, wr (n := Lib.indexByte (L a) 46 + 1) (by omega), if_pos (by omega), if_pos (by omega), if_pos hi]
      simp only [Option.bind_some]
      have e0 : L (a.extract 0 (Lib.indexByte (L a) 46).toNat) = (L a).take (Lib.indexByte (L a) 46).toNat := by
        simp [L]
      have e1 : L (a.extract (Lib.indexByte (L a) 46 + 1).toNat a.size) = (L a).drop ((Lib.indexByte (L a) 46).toNat + 1) := by
        have := Lib.extract_to_end a (Lib.indexByte (L a) 46 + 1).toNat
        rw [show (Lib.indexByte (L a) 46 + 1).toNat = (Lib.indexByte (L a) 46).toNat + 1 by omega] at this ⊢
        exact this
      have s0 : (a.extract 0 (Lib.indexByte (L a) 46).toNat).size ≤ M := by
        rw [← L_length, e0, List.length_take, L_length]; unfold M at *; omega
      have s1 : (a.extract (Lib.indexByte (L a) 46 + 1).toNat a.size).size ≤ M := by
        rw [← L_length, e1, List.length_drop, L_length]; unfold M at *; omega
      rw [digits_eq _ s0, e0]
      simp only [Option.bind_some]
      cases hd : digs ((L a).take (Lib.indexByte (L a) 46).toNat) with
      | false => simp
      | true =>
        rw [if_pos rfl, if_pos trivial, digits_eq _ s1, e1]
        simp
    · rw [if_neg hi, if_neg hi]
      simp only [Option.bind_some]
      rw [digits_eq a ha]
      simp only [Option.bind_some]
      cases hd : digs (L a) <;> simp
def rN (n : Nat) : Nat → Nat → List UInt8 → Bool
  | _, pts, [] => decide (0 < n) && decide (n ≤ 20) && decide (pts ≤ 1)
  | i, pts, c :: r => if c.toNat = 46 ∧ 0 < i ∧ i + 1 < n then rN n (i + 1) (pts + 1) r else digI c && rN n (i + 1) pts r
theorem Digit_eq (b : UInt8) : vinculumref09_Digit.f (b.toNat : Int) = some (digI b) := by
  unfold vinculumref09_Digit.f digI
  by_cases h1 : 48 ≤ b.toNat
  · rw [if_pos (by omega), decide_eq_true h1, Bool.true_and]
    congr 1
    rw [decide_eq_decide]
    omega
  · rw [if_neg (by omega), decide_eq_false h1, Bool.false_and]
theorem rNum_l (s : ByteArray) (hs : s.size ≤ M) : ∀ (m i pts : Nat), s.size - i = m → i ≤ s.size → pts ≤ i → Ev (fun k => vinculumref09_Number.l0 k s pts i) (rN s.size i pts ((L s).drop i)) := by
  intro m
  induction m with
  | zero =>
    intro i pts hi hi2 hp
    refine Ev.step (fun k => by rw [vinculumref09_Number.l0]) ?_
    refine ev_if (fun h => by omega) fun _ => ?_
    rw [List.drop_eq_nil_of_le (by rw [L_length]; omega), rN]
    refine ev_if (fun h1 => ?_) fun h1 => ev_now ?_
    · refine ev_if (fun h2 => ev_now ?_) fun h2 => ev_now ?_
      · rw [decide_eq_true (show 0 < s.size by omega), decide_eq_true (show s.size ≤ 20 by omega), Bool.true_and, Bool.true_and, decide_eq_decide]; omega
      · rw [decide_eq_false (show ¬ s.size ≤ 20 by omega)]; simp
    · rw [decide_eq_false (show ¬ 0 < s.size by omega)]; simp
  | succ m ih =>
    intro i pts hi hi2 hp
    unfold M at hs
    have hil : i < (L s).length := by rw [L_length]; omega
    refine Ev.step (fun k => by rw [vinculumref09_Number.l0]) ?_
    refine ev_if (fun _ => ?_) fun h => by omega
    refine ev_if (fun _ => ?_) fun h => by omega
    rw [List.drop_eq_getElem_cons hil, rN, bt_L s i (by omega)]
    have dot : 0 < i → i + 1 < s.size → ((L s)[i]'hil).toNat = 46 → Ev (fun k => vinculumref09_Number.j1 k s pts i true) (rN s.size (i + 1) (pts + 1) ((L s).drop (i + 1))) := by
      intro h1 h2 h3
      refine Ev.step (fun k => by rw [vinculumref09_Number.j1]) ?_
      refine ev_if (fun _ => ?_) fun h => absurd rfl h
      rw [wr (n := (pts : Int) + 1) (by omega), wr (n := (i : Int) + 1) (by omega)]
      have := ih (i + 1) (pts + 1) (by omega) (by omega) (by omega)
      exact_mod_cast this
    have dig : Ev (fun k => vinculumref09_Number.j1 k s pts i false) (digI ((L s)[i]'hil) && rN s.size (i + 1) pts ((L s).drop (i + 1))) := by
      refine Ev.step (fun k => by rw [vinculumref09_Number.j1]) ?_
      refine ev_if (fun h => by cases h) fun _ => ?_
      refine ev_if (fun _ => ?_) fun h => by omega
      refine ev_if (fun _ => ?_) fun h => by omega
      rw [bt_L s i (by omega), Digit_eq]
      refine ev_bind (Ev.now _) ?_
      refine ev_if (fun h => ?_) fun h => ev_now ?_
      · rw [h, Bool.true_and, wr (n := (i : Int) + 1) (by omega)]
        have := ih (i + 1) pts (by omega) (by omega) (by omega)
        exact_mod_cast this
      · rw [Bool.not_eq_true] at h; rw [h]; rfl
    refine ev_if (fun h1 => ?_) fun h1 => ?_
    · refine ev_if (fun h2 => ?_) fun h2 => ?_
      · rw [wr (n := (s.size : Int) - 1) (by omega)]
        by_cases h3 : i + 1 < s.size
        · rw [if_pos ⟨by omega, by omega, h3⟩, decide_eq_true (show (i : Int) < (s.size : Int) - 1 by omega)]
          exact dot (by omega) h3 (by omega)
        · rw [if_neg (fun h => h3 h.2.2), decide_eq_false (show ¬ (i : Int) < (s.size : Int) - 1 by omega)]
          exact dig
      · rw [if_neg (fun h => h2 (by omega))]
        exact dig
    · rw [if_neg (fun h => h1 (by omega))]
      exact dig
theorem dig46 {c : UInt8} (h : c.toNat = 46) : digI c = false := by unfold digI; rw [h]; rfl
theorem rN2 (n : Nat) : ∀ (r : List UInt8) (i pts : Nat), 2 ≤ pts → rN n i pts r = false
  | [], i, pts, h => by rw [rN, decide_eq_false (show ¬ pts ≤ 1 by omega)]; simp
  | c :: r, i, pts, h => by
    rw [rN]
    split
    · exact rN2 n r _ _ (by omega)
    · rw [rN2 n r _ _ h]; simp
theorem rN1 (n : Nat) : ∀ (r : List UInt8) (i : Nat), 0 < n → rN n i 1 r = (decide (n ≤ 20) && r.all digI)
  | [], i, h => by rw [rN, decide_eq_true h]; simp
  | c :: r, i, h => by
    rw [rN, List.all_cons]
    split
    · rename_i h2
      rw [rN2 n r _ _ (by omega), dig46 h2.1]; simp
    · rw [rN1 n r _ h]; cases digI c <;> simp
theorem idx_cons (c : UInt8) (r : List UInt8) : Lib.indexByte (c :: r) 46 = if c.toNat = 46 then 0 else if Lib.indexByte r 46 = -1 then -1 else Lib.indexByte r 46 + 1 := by
  rw [Lib.indexByte]
  by_cases h : c = 46
  · subst h; rfl
  · have h2 : ¬ c.toNat = 46 := fun e => h (UInt8.toNat_inj.1 e)
    rw [if_neg (by simpa using h), if_neg h2]
    by_cases h3 : Lib.indexByte r 46 = -1
    · rw [if_pos (by simpa using h3), if_pos h3]
    · rw [if_neg (by simpa using h3), if_neg h3]
theorem rN0 (n : Nat) : ∀ (r : List UInt8) (i : Nat), 0 < i → i + r.length = n → rN n i 0 r = (decide (n ≤ 20) && (if 0 ≤ Lib.indexByte r 46 then (r.take (Lib.indexByte r 46).toNat).all digI && digs (r.drop ((Lib.indexByte r 46).toNat + 1)) else r.all digI))
  | [], i, h, hn => by rw [rN, decide_eq_true (show 0 < n by omega)]; simp [Lib.indexByte]
  | c :: r, i, h, hn => by
    have hge := Lib.indexByte_ge r 46
    simp only [List.length_cons] at hn
    rw [rN, idx_cons]
    by_cases h46 : c.toNat = 46
    · simp only [h46, true_and, if_true]
      by_cases hl : i + 1 < n
      · rw [if_pos ⟨h, hl⟩, rN1 n r _ (by omega)]
        have : r.isEmpty = false := by cases r with
          | nil => simp at hn; omega
          | cons a b => rfl
        simp [digs, this]
      · rw [if_neg (fun x => hl x.2), dig46 h46]
        have : r = [] := by cases r with
          | nil => rfl
          | cons a b => simp at hn; omega
        subst this
        simp [digs]
    · simp only [h46, false_and, if_false]
      rw [rN0 n r (i + 1) (by omega) (by omega)]
      by_cases hm : Lib.indexByte r 46 = -1
      · rw [if_pos hm, hm]
        simp only [show ¬ ((0 : Int) ≤ -1) by omega, if_false, List.all_cons]
        cases digI c <;> simp
      · rw [if_neg hm, if_pos (by omega), if_pos (by omega)]
        rw [show (Lib.indexByte r 46 + 1).toNat = (Lib.indexByte r 46).toNat + 1 by omega, List.take_succ_cons, List.drop_succ_cons, List.all_cons]
        cases digI c <;> simp
theorem rN_eq (l : List UInt8) : rN l.length 0 0 l = numB l := by
  cases l with
  | nil => rfl
  | cons c r =>
    have hge := Lib.indexByte_ge r 46
    unfold numB
    rw [rN, if_neg (fun h => by omega), rN0 _ r 1 (by omega) (by simp; omega), idx_cons]
    by_cases h46 : c.toNat = 46
    · simp only [h46, if_true]
      rw [dig46 h46]
      simp [digs]
    · simp only [h46, if_false]
      by_cases hm : Lib.indexByte r 46 = -1
      · rw [if_pos hm, hm]
        simp only [show ¬ ((0 : Int) ≤ -1) by omega, if_false]
        unfold digs
        simp only [List.isEmpty_cons, Bool.not_false, Bool.true_and, List.all_cons]
        cases digI c <;> simp
      · rw [if_neg hm, if_pos (by omega), if_pos (by omega)]
        rw [show (Lib.indexByte r 46 + 1).toNat = (Lib.indexByte r 46).toNat + 1 by omega, List.take_succ_cons, List.drop_succ_cons]
        unfold digs
        simp only [List.isEmpty_cons, Bool.not_false, Bool.true_and, List.all_cons]
        cases digI c <;> simp
theorem rNum_ev (s : ByteArray) (hs : s.size ≤ M) : Ev (fun k => vinculumref09_Number.f k s) (numB (L s)) := by
  have := rNum_l s hs s.size 0 0 rfl (by omega) (by omega)
  rw [List.drop_zero] at this
  have e := rN_eq (L s)
  rw [L_length] at e
  rw [e] at this
  simpa [vinculumref09_Number.f] using this
def dlm : ByteArray := ⟨#[40, 41, 91, 93, 123, 125, 124, 60, 62, 47, 46]⟩
def dlm2 : ByteArray := ⟨#[40, 41, 91, 93, 123, 125, 60, 62, 47, 124, 46]⟩
theorem dlm_eq (c : Int) : hasB dlm2 c = hasB dlm c := by
  unfold hasB
  exact List.Perm.any_eq (show (L dlm2).Perm (L dlm) from by decide)
def fenB (s : ByteArray) : Bool := decide (s.size = 2) && hasB dlm (bt s 0) && hasB dlm (bt s 1)
theorem nFen_eq (s : ByteArray) : node_fence.f s = some (fenB s) := by
  unfold node_fence.f fenB
  by_cases h : (s.size : Int) = 2
  · have h2 : s.size = 2 := by omega
    rw [if_pos h, if_pos (by omega), if_pos (by omega), decide_eq_true h2]
    have l0 : L (s.extract 0 1) = (L s).take 1 := by simp [L]
    have l1 : L (s.extract 1 s.size) = (L s).drop 1 := Lib.extract_to_end s 1
    have hL : (L s).length = 2 := by rw [L_length]; exact h2
    have z0 : (s.extract 0 1).size = 1 := by rw [← L_length, l0, List.length_take]; omega
    have z1 : (s.extract 1 s.size).size = 1 := by rw [← L_length, l1, List.length_drop]; omega
    have b0 : bt (s.extract 0 1) 0 = bt s 0 := by
      have e0 := bt_L (s.extract 0 1) 0 (by omega)
      have e1 := bt_L s 0 (by omega)
      simp only [Int.ofNat_zero, l0] at e0
      simp only [Int.ofNat_zero] at e1
      rw [e0, e1]
      simp
    have b1 : bt (s.extract 1 s.size) 0 = bt s 1 := by
      have e0 := bt_L (s.extract 1 s.size) 0 (by omega)
      have e1 := bt_L s 1 (by omega)
      simp only [Int.ofNat_zero, l1] at e0
      rw [e0]
      refine Eq.trans ?_ e1.symm
      simp
    rw [show (⟨#[40, 41, 91, 93, 123, 125, 60, 62, 47, 124, 46]⟩ : ByteArray) = dlm2 from rfl, Contains1 _ _ z0, b0, Contains1 _ _ z1, b1, dlm_eq, dlm_eq]
    simp only [Option.bind_some]
    cases hasB dlm (bt s 0) <;> simp
  · rw [if_neg h, decide_eq_false (show ¬ s.size = 2 by omega)]; simp
end Go.Proofs.YtagkhoeidjlahaaDoor.G.Pure
namespace Go.Proofs.YtagkhoeidjlahaaDoor.G
open Go.RowKit Go.Proofs.YtagkhoeidjlahaaDoorW.PrintWords Go.Proofs.YtagkhoeidjlahaaDoorW.PrintLast Go.Proofs.YtagkhoeidjlahaaDoorW.PrintMore
attribute [local go_sem] max2_int min2_int max_two min_two max_three min_three max_four min_four
set_option linter.unusedVariables false
set_option linter.unusedSimpArgs false
mutual
def vinculumref09_left.l0 : Nat → Int → Int → Int → ByteArray → Int → List (S36) → Option (Int)
  | 0, _, _, _, _, _, _ => none
  | k + 1, x1, x5, x204000, x204001, x204002, x204003 => if x5 < (x204003.length : Int) then (if x1 ≥ 0 then (if 0 ≤ x5 then ((vinculumref09_left.f k ((rd_T36 x204003 x5).f0) ((rd_T36 x204003 x5).f1) ((rd_T36 x204003 x5).f2) ((rd_T36 x204003 x5).f3) x1).bind fun t205 => (vinculumref09_left.l0 k t205 (wrap64 (x5 + 1)) x204000 x204001 x204002 x204003)) else (none)) else (some x1)) else (some x1)
def vinculumref09_left.f : Nat → Int → ByteArray → Int → List (S36) → Int → Option (Int)
  | 0, _, _, _, _, _ => none
  | k + 1, a0_0, a0_1, a0_2, l0_3, a1 => vinculumref09_left.l0 k (wrap64 (a1 - 1)) 0 a0_0 a0_1 a0_2 l0_3
end
theorem vinculumref09_left.mono_l : ∀ k, (∀ y0 y1 y2 y3 y4, LeO (vinculumref09_left.f k y0 y1 y2 y3 y4) (vinculumref09_left.f (k + 1) y0 y1 y2 y3 y4)) ∧ (∀ y0 y1 y2 y3 y4 y5, LeO (vinculumref09_left.l0 k y0 y1 y2 y3 y4 y5) (vinculumref09_left.l0 (k + 1) y0 y1 y2 y3 y4 y5))
  | 0 => ⟨fun _ _ _ _ _ r h => by simp [vinculumref09_left.f] at h, fun _ _ _ _ _ _ r h => by simp [vinculumref09_left.l0] at h⟩
  | k + 1 => by
    obtain ⟨ih0, ih1⟩ := vinculumref09_left.mono_l k
    refine ⟨?_, ?_⟩
    · intro y0 y1 y2 y3 y4
      unfold vinculumref09_left.f
      repeat' first
      | (with_reducible exact ih0 _ _ _ _ _)
      | (with_reducible exact ih1 _ _ _ _ _ _)
      | (with_reducible exact LeO.refl _)
      | (with_reducible exact LeO.none _)
      | (with_reducible refine LeO.ite ?_ ?_)
      | (with_reducible refine LeO.bind ?_ (fun _ => ?_))
      | exact ih0 _ _ _ _ _
      | exact ih1 _ _ _ _ _ _
      | exact LeO.none _
      | refine LeO.ite ?_ ?_
      | refine LeO.bind ?_ (fun _ => ?_)
    · intro y0 y1 y2 y3 y4 y5
      unfold vinculumref09_left.l0
      repeat' first
      | (with_reducible exact ih0 _ _ _ _ _)
      | (with_reducible exact ih1 _ _ _ _ _ _)
      | (with_reducible exact LeO.refl _)
      | (with_reducible exact LeO.none _)
      | (with_reducible refine LeO.ite ?_ ?_)
      | (with_reducible refine LeO.bind ?_ (fun _ => ?_))
      | exact ih0 _ _ _ _ _
      | exact ih1 _ _ _ _ _ _
      | exact LeO.none _
      | refine LeO.ite ?_ ?_
      | refine LeO.bind ?_ (fun _ => ?_)
theorem vinculumref09_left.mono : ∀ a0 a1 a2 a3 a4 k, LeO (vinculumref09_left.f k a0 a1 a2 a3 a4) (vinculumref09_left.f (k + 1) a0 a1 a2 a3 a4) := by
  intro a0 a1 a2 a3 a4 k
  obtain ⟨ih0, ih1⟩ := vinculumref09_left.mono_l k
  exact ih0 a0 a1 a2 a3 a4
set_option maxHeartbeats 8000000 in
set_option maxRecDepth 100000 in
theorem vinculumref09_left.calls (k : Nat) : ∀ (a0_0 : Int) (a0_1 : ByteArray) (a0_2 : Int) (A0_3 : Option Addr) (c0_3 : Nat) (l0_3 : List (S36)) (a1 : Int) (r : Int) (w : World) (hr0_3 : Kd.C k36 w A0_3 l0_3.length l0_3) (hc0_3 : l0_3.length ≤ c0_3) (h : vinculumref09_left.f k a0_0 a0_1 a0_2 l0_3 a1 = some r),
    Calls Tryd.prog 86 #[.agg #[.int .i64 a0_0, .string a0_1, .int .i64 a0_2, .slice A0_3 l0_3.length c0_3], .int .i64 a1] w fun e w' => e = .returned (.int .i64 r) ∧ Below w.heap.size w w' := by
  induction k using Nat.strongRecOn with
  | _ k ih =>
  intro a0_0 a0_1 a0_2 A0_3 c0_3 l0_3 a1 r w hr0_3 hc0_3 h
  cases k with
  | zero => exact absurd h (by simp [vinculumref09_left.f])
  | succ k =>
  simp only [vinculumref09_left.f] at h
  have hu36 := Tryd.underlying36
  have HR0_3 := Aside0.mk hr0_3
  have HC0_3 := Aside0.mk hc0_3
  clear hr0_3 hc0_3
  have HB := Aside0.mk (Below.refl w.heap.size w)
  have H : (vinculumref09_left.l0 k (wrap64 (a1 - 1)) 0 a0_0 a0_1 a0_2 l0_3) = some r := h
  clear h
  have H' := Aside0.mk H
  clear H
  go_enter Tryd.func86, Tryd.ntmps86
  go_wp2_with (first | ((with_reducible refine gate_dst (N := 2) rfl ?_); refine box_event ?hg (N := 2) ?hd (cs := #[.int .i64 a0_0, .string a0_1, .int .i64 a0_2, .slice A0_3 l0_3.length c0_3]) (t := 36) ?hr ?_; (case hd => rfl); (case hg => rfl); (case hr => first | (go_simp; done) | (go_simp; rfl)); intro gb203 hg w3 hbox hb; have n0_ := Aside0.mk (below_step (by repeat (first | (with_reducible first | exact HB.out | apply below_alloc | apply pw_below_drewN | apply below_drew1) | exact HB.out)) hb); have n1_ := Aside0.mk (hbox); have n2_ := Aside0.mk ((by rw [hg]; exact (below_size (by repeat (first | (with_reducible first | exact HB.out | apply below_alloc | apply pw_below_drewN | apply below_drew1) | exact HB.out))) : w.heap.size ≤ gb203)); have n3_ := Aside0.mk ((by rw [hg]; exact (below_size (by repeat (first | (with_reducible first | exact HB.out | apply below_alloc | apply pw_below_drewN | apply below_drew1) | exact HB.out))) : w.heap.size ≤ gb203)); clear HB; have HB := n0_; have BK203 := n1_; have GW203 := n2_; have GE203 := n3_; clear n0_ n1_ n2_ n3_; clear hb hbox hg))
  go_loopg [1, 5] k (fun kq v1 v5 w' => ∃ (x1_1 : Int) (x5_1 : Int), v1 = .int .i64 x1_1 ∧ v5 = .int .i64 x5_1 ∧ Aside0 (vinculumref09_left.l0 kq x1_1 x5_1 a0_0 a0_1 a0_2 l0_3 = some r) ∧ Aside0 (kq ≤ k) ∧ Aside0 (w'.heap[gb203]? = some (.cells #[.int .i64 a0_0, .string a0_1, .int .i64 a0_2, (.slice A0_3 l0_3.length c0_3)] 36 (0, 0))) ∧ Aside0 (Below w.heap.size w w'))
  case atStart => exact ⟨(wrap64 (a1 - 1)), (0), (by first | rfl | (simp; done) | (simp [*]; done)), (by first | rfl | (simp; done) | (simp [*]; done)), H', ⟨Nat.le_refl _⟩, ⟨by (with_reducible repeat (first | refine blk_drewN ?_ _ | refine blk_drew ?_ | refine blk_alloc ?_ _)); exact BK203.out⟩, ⟨by repeat (first | (with_reducible first | exact HB.out | apply below_alloc | apply pw_below_drewN | apply below_drew1 | refine below_set ?_ GE203.out) | exact HB.out)⟩⟩
  case round =>
    clear H'
    try clear p2
    obtain ⟨x1_1, x5_1, rfl, rfl, HA, HK1, BK203, HB⟩ := hrel
    cases gk with
    | zero => exact absurd HA.out (by simp [vinculumref09_left.l0])
    | succ k1 =>
      have H := HA.out
      clear HA
      simp only [vinculumref09_left.l0] at H
      by_cases c4 : x5_1 < (l0_3.length : Int)
      · rw [if_pos c4] at H
        have c4b0 : decide (x5_1 < (l0_3.length : Int)) = true := decide_eq_true c4
        clear c4
        by_cases c5 : x1_1 ≥ 0
        · rw [if_pos c5] at H
          have c5b0 : decide (0 ≤ x1_1) = true := decide_eq_true c5
          clear c5
          by_cases c6 : 0 ≤ x5_1
          · rw [if_pos c6] at H
            have c6b0 : decide (0 ≤ x5_1) = true := decide_eq_true c6
            clear c6
            replace H := Option.bind_eq_some_iff.mp H
            obtain ⟨t205, A70, H⟩ := H
            replace H : (vinculumref09_left.l0 k1 t205 (wrap64 (x5_1 + 1)) a0_0 a0_1 a0_2 l0_3) = some r := H
            have A7 := Aside0.mk A70
            clear A70
            have H' := Aside0.mk H
            clear H
            have hcz8_0 : wr.cell? ⟨gb203, 0, none⟩ = some (.int .i64 a0_0) := (blk_cell BK203.out 0).trans rfl
            have hcz8_1 : wr.cell? ⟨gb203, 1, none⟩ = some (.string a0_1) := (blk_cell BK203.out 1).trans rfl
            have hcz8_2 : wr.cell? ⟨gb203, 2, none⟩ = some (.int .i64 a0_2) := (blk_cell BK203.out 2).trans rfl
            have hcz8_3 : wr.cell? ⟨gb203, 3, none⟩ = some (.slice A0_3 l0_3.length c0_3) := (blk_cell BK203.out 3).trans rfl
            have hfz8_0 := blk_frozen BK203.out 0
            have hfz8_1 := blk_frozen BK203.out 1
            have hfz8_2 := blk_frozen BK203.out 2
            have hfz8_3 := blk_frozen BK203.out 3
            have p204 : 0 ≤ (x5_1 : Int) := of_decide_eq_true (by first | (with_reducible assumption) | assumption)
            have q204 : x5_1 < (l0_3.length : Int) := of_decide_eq_true (by first | (with_reducible assumption) | assumption)
            obtain ⟨ad204, A204_3, c204_3, e204, hx204_0, hx204_1, hx204_2, hx204_3, hl204_3, hi204_3⟩ := at_T36 HR0_3.out x5_1 p204 q204
            cases e204
            replace hx204_0 := (HB.out.cell (World.block_lt_of_cell? w _ hx204_0)).trans hx204_0
            replace hx204_1 := (HB.out.cell (World.block_lt_of_cell? w _ hx204_1)).trans hx204_1
            replace hx204_2 := (HB.out.cell (World.block_lt_of_cell? w _ hx204_2)).trans hx204_2
            replace hx204_3 := (HB.out.cell (World.block_lt_of_cell? w _ hx204_3)).trans hx204_3
            have HR204_3 := Aside0.mk hi204_3
            have HC204_3 := Aside0.mk hl204_3
            clear hi204_3 hl204_3
            replace p204 := eq_true p204
            replace q204 := eq_true q204
            go_wp2_with (first | ((with_reducible refine gate_callee (f := 86) rfl ?_); refine goesL_ (some 25) rfl rfl Tryd.func86 (by kernel_rfl) rfl #[.agg #[.int .i64 ((rd_T36 l0_3 x5_1).f0), .string ((rd_T36 l0_3 x5_1).f1), .int .i64 ((rd_T36 l0_3 x5_1).f2), .slice A204_3 ((rd_T36 l0_3 x5_1).f3).length c204_3], .int .i64 x1_1] rfl (by (try simp only [List.map_toArray, List.map_cons, List.map_nil]); first | done | rfl | (simp only [List.length_drop, List.length_take]; rfl)) ?_; (with_reducible refine (ih k1 (by have := HK1.out; omega) ((rd_T36 l0_3 x5_1).f0) ((rd_T36 l0_3 x5_1).f1) ((rd_T36 l0_3 x5_1).f2) _ _ ((rd_T36 l0_3 x5_1).f3) x1_1 t205 _ ?side1 ?side2 A7.out).mono ?_); (case side1 => repeat (first | exact (Kd.C_below HR204_3.out HB.out) | (with_reducible refine Kd.C_alloc ?_ _) | (with_reducible refine Kd.C_drewN ?_ _) | (with_reducible refine Kd.C_drew ?_))); (case side2 => exact HC204_3.out); rintro e w9 ⟨rfl, hb⟩; refine ⟨_, rfl, ?_⟩; have n0_ := Aside0.mk (blk_below (g := gb203) (o := .cells #[.int .i64 a0_0, .string a0_1, .int .i64 a0_2, .slice (some ad204) l0_3.length c0_3] 36 (0, 0)) (by (with_reducible repeat (first | refine blk_drewN ?_ _ | refine blk_drew ?_ | refine blk_alloc ?_ _)); exact BK203.out) hb); have n1_ := Aside0.mk (below_step (by repeat (first | (with_reducible first | exact HB.out | apply below_alloc | apply pw_below_drewN | apply below_drew1 | refine below_set ?_ GE203.out) | exact HB.out)) hb); clear BK203; clear HB; have BK203 := n0_; have HB := n1_; clear n0_ n1_; (try clear hb); (try clear hb2); (try clear hk); (try clear hi)))
            go_roundg k1
            case measure => have := HK1.out; omega
            case rel => exact ⟨(t205), (wrap64 (x5_1 + 1)), (by first | rfl | (simp; done) | (simp [*]; done)), (by first | rfl | (simp; done) | (simp [*]; done)), H', ⟨by have := HK1.out; omega⟩, ⟨by (with_reducible repeat (first | refine blk_drewN ?_ _ | refine blk_drew ?_ | refine blk_alloc ?_ _)); exact BK203.out⟩, ⟨by repeat (first | (with_reducible first | exact HB.out | apply below_alloc | apply pw_below_drewN | apply below_drew1 | refine below_set ?_ GE203.out) | exact HB.out)⟩⟩
          · rw [if_neg c6] at H
            exact absurd H (by simp)
        · rw [if_neg c5] at H
          have c5b0 : decide (0 ≤ x1_1) = false := decide_eq_false c5
          clear c5
          obtain rfl := Option.some.inj H
          have hcz10_0 : wr.cell? ⟨gb203, 0, none⟩ = some (.int .i64 a0_0) := (blk_cell BK203.out 0).trans rfl
          have hcz10_1 : wr.cell? ⟨gb203, 1, none⟩ = some (.string a0_1) := (blk_cell BK203.out 1).trans rfl
          have hcz10_2 : wr.cell? ⟨gb203, 2, none⟩ = some (.int .i64 a0_2) := (blk_cell BK203.out 2).trans rfl
          have hcz10_3 : wr.cell? ⟨gb203, 3, none⟩ = some (.slice A0_3 l0_3.length c0_3) := (blk_cell BK203.out 3).trans rfl
          have hfz10_0 := blk_frozen BK203.out 0
          have hfz10_1 := blk_frozen BK203.out 1
          have hfz10_2 := blk_frozen BK203.out 2
          have hfz10_3 := blk_frozen BK203.out 3
          go_wp2
          go_ret
          exact ⟨by first | rfl | (simp [errW_none, errW_some] <;> rfl) | (simp [*, errW_none, errW_some] <;> rfl), by repeat (first | (with_reducible first | exact HB.out | apply below_alloc | apply pw_below_drewN | apply below_drew1 | refine below_set ?_ GE203.out) | exact HB.out)⟩
      · rw [if_neg c4] at H
        have c4b0 : decide (x5_1 < (l0_3.length : Int)) = false := decide_eq_false c4
        clear c4
        obtain rfl := Option.some.inj H
        have hcz11_0 : wr.cell? ⟨gb203, 0, none⟩ = some (.int .i64 a0_0) := (blk_cell BK203.out 0).trans rfl
        have hcz11_1 : wr.cell? ⟨gb203, 1, none⟩ = some (.string a0_1) := (blk_cell BK203.out 1).trans rfl
        have hcz11_2 : wr.cell? ⟨gb203, 2, none⟩ = some (.int .i64 a0_2) := (blk_cell BK203.out 2).trans rfl
        have hcz11_3 : wr.cell? ⟨gb203, 3, none⟩ = some (.slice A0_3 l0_3.length c0_3) := (blk_cell BK203.out 3).trans rfl
        have hfz11_0 := blk_frozen BK203.out 0
        have hfz11_1 := blk_frozen BK203.out 1
        have hfz11_2 := blk_frozen BK203.out 2
        have hfz11_3 := blk_frozen BK203.out 3
        go_wp2
        go_ret
        exact ⟨by first | rfl | (simp [errW_none, errW_some] <;> rfl) | (simp [*, errW_none, errW_some] <;> rfl), by repeat (first | (with_reducible first | exact HB.out | apply below_alloc | apply pw_below_drewN | apply below_drew1 | refine below_set ?_ GE203.out) | exact HB.out)⟩
end Go.Proofs.YtagkhoeidjlahaaDoor.G
namespace Go.Proofs.YtagkhoeidjlahaaDoor.G
open Go.RowKit Go.Proofs.YtagkhoeidjlahaaDoorW.PrintWords Go.Proofs.YtagkhoeidjlahaaDoorW.PrintLast Go.Proofs.YtagkhoeidjlahaaDoorW.PrintMore
attribute [local go_sem] max2_int min2_int max_two min_two max_three min_three max_four min_four
set_option linter.unusedVariables false
set_option linter.unusedSimpArgs false
def vinculumref09_Few.f (k : Nat) (a0_0 : Int) (a0_1 : ByteArray) (a0_2 : Int) (l0_3 : List (S36)) (a1 : Int) : Option (Bool) := (vinculumref09_left.f k a0_0 a0_1 a0_2 l0_3 a1).bind fun t207 => (some (decide (t207 ≥ 0)))
theorem vinculumref09_Few.mono : ∀ a0 a1 a2 a3 a4 k, LeO (vinculumref09_Few.f k a0 a1 a2 a3 a4) (vinculumref09_Few.f (k + 1) a0 a1 a2 a3 a4) := by
  intro a0 a1 a2 a3 a4 k
  unfold vinculumref09_Few.f
  repeat' first
      | (with_reducible exact vinculumref09_left.mono _ _ _ _ _ _)
      | (with_reducible exact LeO.refl _)
      | (with_reducible exact LeO.none _)
      | (with_reducible refine LeO.ite ?_ ?_)
      | (with_reducible refine LeO.bind ?_ (fun _ => ?_))
      | exact vinculumref09_left.mono _ _ _ _ _ _
      | exact LeO.none _
      | refine LeO.ite ?_ ?_
      | refine LeO.bind ?_ (fun _ => ?_)
set_option maxHeartbeats 8000000 in
set_option maxRecDepth 100000 in
theorem vinculumref09_Few.calls (k : Nat) (a0_0 : Int) (a0_1 : ByteArray) (a0_2 : Int) (A0_3 : Option Addr) (c0_3 : Nat) (l0_3 : List (S36)) (a1 : Int) (r : Bool) (w : World) (hr0_3 : Kd.C k36 w A0_3 l0_3.length l0_3) (hc0_3 : l0_3.length ≤ c0_3) (h : vinculumref09_Few.f k a0_0 a0_1 a0_2 l0_3 a1 = some r) :
    Calls Tryd.prog 61 #[.agg #[.int .i64 a0_0, .string a0_1, .int .i64 a0_2, .slice A0_3 l0_3.length c0_3], .int .i64 a1] w fun e w' => e = .returned (.bool r) ∧ Below w.heap.size w w' := by
  have hu36 := Tryd.underlying36
  have HR0_3 := Aside0.mk hr0_3
  have HC0_3 := Aside0.mk hc0_3
  clear hr0_3 hc0_3
  have HB := Aside0.mk (Below.refl w.heap.size w)
  have H : ((vinculumref09_left.f k a0_0 a0_1 a0_2 l0_3 a1).bind fun t207 => (some (decide (t207 ≥ 0)))) = some r := h
  clear h
  replace H := Option.bind_eq_some_iff.mp H
  obtain ⟨t207, A30, H⟩ := H
  replace H : (some (decide (t207 ≥ 0))) = some r := H
  have A3 := Aside0.mk A30
  clear A30
  obtain rfl := Option.some.inj H
  go_enter Tryd.func61, Tryd.ntmps61
  go_wp2_with (first | ((with_reducible refine gate_dst (N := 2) rfl ?_); refine box_event ?hg (N := 2) ?hd (cs := #[.int .i64 a0_0, .string a0_1, .int .i64 a0_2, .slice A0_3 l0_3.length c0_3]) (t := 36) ?hr ?_; (case hd => rfl); (case hg => rfl); (case hr => first | (go_simp; done) | (go_simp; rfl)); intro gb206 hg w4 hbox hb; have n0_ := Aside0.mk (below_step (by repeat (first | (with_reducible first | exact HB.out | apply below_alloc | apply pw_below_drewN | apply below_drew1) | exact HB.out)) hb); have n1_ := Aside0.mk (hbox); have n2_ := Aside0.mk ((by rw [hg]; exact (below_size (by repeat (first | (with_reducible first | exact HB.out | apply below_alloc | apply pw_below_drewN | apply below_drew1) | exact HB.out))) : w.heap.size ≤ gb206)); have n3_ := Aside0.mk ((by rw [hg]; exact (below_size (by repeat (first | (with_reducible first | exact HB.out | apply below_alloc | apply pw_below_drewN | apply below_drew1) | exact HB.out))) : w.heap.size ≤ gb206)); clear HB; have HB := n0_; have BK206 := n1_; have GW206 := n2_; have GE206 := n3_; clear n0_ n1_ n2_ n3_; clear hb hbox hg; have hcz5_0 : w4.cell? ⟨gb206, 0, none⟩ = some (.int .i64 a0_0) := (blk_cell BK206.out 0).trans rfl; have hcz5_1 : w4.cell? ⟨gb206, 1, none⟩ = some (.string a0_1) := (blk_cell BK206.out 1).trans rfl; have hcz5_2 : w4.cell? ⟨gb206, 2, none⟩ = some (.int .i64 a0_2) := (blk_cell BK206.out 2).trans rfl; have hcz5_3 : w4.cell? ⟨gb206, 3, none⟩ = some (.slice A0_3 l0_3.length c0_3) := (blk_cell BK206.out 3).trans rfl; have hfz5_0 := blk_frozen BK206.out 0; have hfz5_1 := blk_frozen BK206.out 1; have hfz5_2 := blk_frozen BK206.out 2; have hfz5_3 := blk_frozen BK206.out 3) | ((with_reducible refine gate_callee (f := 86) rfl ?_); refine goesL_ (some 7) rfl rfl Tryd.func86 (by kernel_rfl) rfl #[.agg #[.int .i64 a0_0, .string a0_1, .int .i64 a0_2, .slice A0_3 l0_3.length c0_3], .int .i64 a1] rfl (by (try simp only [List.map_toArray, List.map_cons, List.map_nil]); first | done | rfl | (simp only [List.length_drop, List.length_take]; rfl)) ?_; (with_reducible refine (vinculumref09_left.calls k a0_0 a0_1 a0_2 _ _ l0_3 a1 t207 _ ?side1 ?side2 A3.out).mono ?_); (case side1 => repeat (first | exact (Kd.C_below HR0_3.out HB.out) | (with_reducible refine Kd.C_alloc ?_ _) | (with_reducible refine Kd.C_drewN ?_ _) | (with_reducible refine Kd.C_drew ?_))); (case side2 => exact HC0_3.out); rintro e w6 ⟨rfl, hb⟩; refine ⟨_, rfl, ?_⟩; have n0_ := Aside0.mk (blk_below (g := gb206) (o := .cells #[.int .i64 a0_0, .string a0_1, .int .i64 a0_2, .slice A0_3 l0_3.length c0_3] 36 (0, 0)) (by (with_reducible repeat (first | refine blk_drewN ?_ _ | refine blk_drew ?_ | refine blk_alloc ?_ _)); exact BK206.out) hb); have n1_ := Aside0.mk (below_step (by repeat (first | (with_reducible first | exact HB.out | apply below_alloc | apply pw_below_drewN | apply below_drew1 | refine below_set ?_ GE206.out) | exact HB.out)) hb); clear BK206; clear HB; have BK206 := n0_; have HB := n1_; clear n0_ n1_; (try clear hb); (try clear hb2); (try clear hk); (try clear hi)))
  go_ret
  exact ⟨by first | rfl | (simp [errW_none, errW_some] <;> rfl) | (simp [*, errW_none, errW_some] <;> rfl), by repeat (first | (with_reducible first | exact HB.out | apply below_alloc | apply pw_below_drewN | apply below_drew1 | refine below_set ?_ GE206.out) | exact HB.out)⟩
end Go.Proofs.YtagkhoeidjlahaaDoor.G
namespace Go.Proofs.YtagkhoeidjlahaaDoor.G.Pure
open Go.Proofs.YtagkhoeidjlahaaDoorW.PrintWords Go.RowKit
set_option linter.unusedVariables false
set_option linter.unusedSimpArgs false
def shp (kd : Int) (s : ByteArray) (cols : Int) (n : Nat) : Bool :=
  if kd = 1 then shR s cols n else if kd = 12 then shM s cols n
  else if kd = 2 then shT (symB s) cols n 0
  else if kd = 3 then shT (numB (L s)) cols n 0
  else if kd = 4 then shT (priB (L s) && decide (s.size ≤ 200)) cols n 0
  else if kd = 10 then shT (inB accs s) cols n 1
  else if kd = 11 then shT (fenB s) cols n 1
  else if kd = 9 then shT (s.toList == []) cols n 3
  else if 5 ≤ kd ∧ kd ≤ 8 then shT (s.toList == []) cols n 2
  else false
theorem nAcc_ev (s : ByteArray) : Ev (fun k => node_accent.f k s) (inB accs s) := by
  unfold node_accent.f
  exact ev_bind (Contains_ev accs s (by decide)) (Ev.now _)
theorem nPri_ev (s : ByteArray) (hs : s.size ≤ M) : Ev (fun k => node_printable.f k s) (priB (L s) && decide (s.size ≤ 200)) := by
  have := nPri_l s hs s.size 0 rfl
  simpa [node_printable.f] using this
theorem shape_ev (kd : Int) (s : ByteArray) (cols : Int) (n : Nat) (hs : s.size ≤ M) : Ev (fun k => shapeF k kd s cols n) (shp kd s cols n) := by
  unfold shapeF shp
  by_cases h1 : kd = 1
  · simp only [h1, if_true]; exact Ev.now _
  by_cases h12 : kd = 12
  · simp only [h1, h12, if_true, if_false]; exact Ev.now _
  by_cases h2 : kd = 2
  · simp only [h1, h12, h2, if_true, if_false]; exact ev_bind (nSym_ev s hs) (Ev.now _)
  by_cases h3 : kd = 3
  · simp only [h1, h12, h2, h3, if_true, if_false]; exact ev_bind (ev_some (nNum_eq s hs)) (Ev.now _)
  by_cases h4 : kd = 4
  · simp only [h1, h12, h2, h3, h4, if_true, if_false]; exact ev_bind (nPri_ev s hs) (Ev.now _)
  by_cases h10 : kd = 10
  · simp only [h1, h12, h2, h3, h4, h10, if_true, if_false]; exact ev_bind (nAcc_ev s) (Ev.now _)
  by_cases h11 : kd = 11
  · simp only [h1, h12, h2, h3, h4, h10, h11, if_true, if_false]; exact ev_bind (ev_some (nFen_eq s)) (Ev.now _)
  simp only [h1, h12, h2, h3, h4, h10, h11, if_false]
  by_cases h9 : kd = 9
  · simp only [h9, if_true]; exact Ev.now _
  simp only [h9, if_false]
  by_cases h5 : 5 ≤ kd ∧ kd ≤ 8
  · simp only [h5, and_self, if_true]; exact Ev.now _
  · simp only [h5, if_false]; exact Ev.now _
def textB (kd : Int) (s : ByteArray) : Bool :=
  if kd = 2 then symB s else if kd = 3 then numB (L s) else if kd = 4 then decide (s.size ≤ 200) && priB (L s)
  else if kd = 10 then inB accs s else if kd = 11 then fenB s else s.toList == []
def kidsB (kd cols : Int) (n : Nat) : Bool :=
  if kd = 12 then decide (1 ≤ cols) && decide (cols ≤ 16) && decide (1 ≤ n) && decide (n ≤ 256) && ((n : Int) % cols == 0)
  else decide (cols = 0) && (if kd = 1 then decide (n ≤ 200) else if kd = 2 ∨ kd = 3 ∨ kd = 4 then n == 0 else if 5 ≤ kd ∧ kd ≤ 8 then n == 2 else if kd = 9 then n == 3 else if kd = 10 ∨ kd = 11 then n == 1 else false)
theorem text_ev (kd : Int) (s : ByteArray) (cols : Int) (l : List S36) (hs : s.size ≤ M) : Ev (fun k => vinculumref09_text.f k kd s cols l) (textB kd s) := by
  unfold vinculumref09_text.f textB
  refine ev_if (fun h => ?_) fun h => ?_
  · rw [if_pos h]; exact ev_bind (rSym_ev s hs) (Ev.now _)
  rw [if_neg h]
  refine ev_if (fun h => ?_) fun h => ?_
  · rw [if_pos h]; exact ev_bind (rNum_ev s hs) (Ev.now _)
  rw [if_neg h]
  refine ev_if (fun h => ?_) fun h => ?_
  · rw [if_pos h]
    refine ev_if (fun h2 => ?_) fun h2 => ev_now ?_
    · rw [decide_eq_true (show s.size ≤ 200 by omega), Bool.true_and]
      have := rPri_l s hs s.size 0 rfl
      exact ev_bind (by simpa [vinculumref09_Printable.f] using this) (Ev.now _)
    · rw [decide_eq_false (show ¬ s.size ≤ 200 by omega)]; rfl
  rw [if_neg h]
  refine ev_if (fun h => ?_) fun h => ?_
  · rw [if_pos h]
    refine ev_bind (ev_some (show vinculumref09_Accents.f = some accs from rfl)) ?_
    exact ev_bind (In_ev accs s (by decide)) (Ev.now _)
  rw [if_neg h]
  refine ev_if (fun h => ?_) fun h => ?_
  · rw [if_pos h]
    unfold fenB
    refine ev_if (fun h2 => ?_) fun h2 => ev_now ?_
    · refine ev_if (fun _ => ?_) fun h => by omega
      rw [decide_eq_true (show s.size = 2 by omega), Bool.true_and]
      refine ev_bind (has_ev dlm (bt s 0) (by decide)) ?_
      refine ev_if (fun h3 => ?_) fun h3 => ev_now ?_
      · refine ev_if (fun _ => ?_) fun h => by omega
        rw [h3, Bool.true_and]
        exact ev_bind (has_ev dlm (bt s 1) (by decide)) (Ev.now _)
      · rw [Bool.not_eq_true] at h3; rw [h3]; rfl
    · rw [decide_eq_false (show ¬ s.size = 2 by omega)]; rfl
  · rw [if_neg h]; exact Ev.now _
theorem k0_ev (x kd : Int) (b : Bool) : Ev (fun k => vinculumref09_kids.j1 k x kd b) (if b = true then x == 2 else if kd = 9 then x == 3 else if kd = 10 then x == 1 else if kd = 11 then x == 1 else false) := by
  refine Ev.step (fun k => by rw [vinculumref09_kids.j1]) ?_
  refine ev_if (fun h => ev_now ?_) fun h => ?_
  · rw [if_pos h]
  rw [if_neg h]
  refine ev_if (fun h => ev_now ?_) fun h => ?_
  · rw [if_pos h]
  rw [if_neg h]
  refine ev_if (fun h => ev_now ?_) fun h => ?_
  · rw [if_pos h]
  rw [if_neg h]
  refine ev_if (fun h => ev_now ?_) fun h => ev_now ?_
  · rw [if_pos h]
  · rw [if_neg h]
theorem kj0_ev (x kd : Int) (b : Bool) : Ev (fun k => vinculumref09_kids.j0 k x kd b) (if b = true then x == 0 else if 5 ≤ kd ∧ kd ≤ 8 then x == 2 else if kd = 9 then x == 3 else if kd = 10 then x == 1 else if kd = 11 then x == 1 else false) := by
  refine Ev.step (fun k => by rw [vinculumref09_kids.j0]) ?_
  refine ev_if (fun h => ev_now ?_) fun h => ?_
  · rw [if_pos h]
  rw [if_neg h]
  refine ev_if (fun h => ?_) fun h5 => ?_
  · subst h; exact k0_ev x 5 true
  refine ev_if (fun h => ?_) fun h6 => ?_
  · subst h; exact k0_ev x 6 true
  refine ev_if (fun h => ?_) fun h7 => ?_
  · subst h; exact k0_ev x 7 true
  by_cases h8 : kd = 8
  · subst h8; exact k0_ev x 8 true
  · rw [if_neg (by omega), beq_eq_false_iff_ne.2 h8]
    exact k0_ev x kd false
theorem kids_ev (kd : Int) (s : ByteArray) (cols : Int) (l : List S36) : Ev (fun k => vinculumref09_kids.f k kd s cols l) (kidsB kd cols l.length) := by
  unfold vinculumref09_kids.f kidsB
  refine ev_if (fun h => ?_) fun h12 => ?_
  · rw [if_pos h]
    refine ev_if (fun h1 => ?_) fun h1 => ev_now ?_
    · rw [decide_eq_true (show 1 ≤ cols by omega), Bool.true_and]
      refine ev_if (fun h2 => ?_) fun h2 => ev_now ?_
      · rw [decide_eq_true h2, Bool.true_and]
        refine ev_if (fun h3 => ?_) fun h3 => ev_now ?_
        · rw [decide_eq_true (show 1 ≤ l.length by omega), Bool.true_and]
          refine ev_if (fun h4 => ?_) fun h4 => ev_now ?_
          · rw [decide_eq_true (show l.length ≤ 256 by omega), Bool.true_and]
            exact ev_if (fun h5 => by omega) fun _ => Ev.now _
          · rw [decide_eq_false (show ¬ l.length ≤ 256 by omega)]; rfl
        · rw [decide_eq_false (show ¬ 1 ≤ l.length by omega)]; rfl
      · rw [decide_eq_false h2]; rfl
    · rw [decide_eq_false (show ¬ 1 ≤ cols by omega)]; rfl
  rw [if_neg h12]
  refine ev_if (fun hc => ?_) fun hc => ev_now ?_
  · rw [decide_eq_true hc, Bool.true_and]
    have z0 : ((l.length : Int) == 0) = (l.length == 0) := by rw [Bool.eq_iff_iff]; simp
    have z1 : ((l.length : Int) == 1) = (l.length == 1) := by rw [Bool.eq_iff_iff]; simp; omega
    have z2 : ((l.length : Int) == 2) = (l.length == 2) := by rw [Bool.eq_iff_iff]; simp; omega
    have z3 : ((l.length : Int) == 3) = (l.length == 3) := by rw [Bool.eq_iff_iff]; simp; omega
    refine ev_if (fun h => ev_now ?_) fun h1 => ?_
    · rw [if_pos h, decide_eq_decide]; omega
    rw [if_neg h1]
    refine ev_if (fun h => ?_) fun h2 => ?_
    · subst h; rw [if_pos (by omega)]; have := kj0_ev l.length 2 true; rw [if_pos rfl, z0] at this; exact this
    refine ev_if (fun h => ?_) fun h3 => ?_
    · subst h; rw [if_pos (by omega)]; have := kj0_ev l.length 3 true; rw [if_pos rfl, z0] at this; exact this
    by_cases h4 : kd = 4
    · subst h4; rw [if_pos (by omega)]; have := kj0_ev l.length 4 true; rw [if_pos rfl, z0] at this; exact this
    · rw [if_neg (by omega), beq_eq_false_iff_ne.2 h4]
      have := kj0_ev l.length kd false
      rw [if_neg (by simp), z1, z2, z3] at this
      by_cases h5 : 5 ≤ kd ∧ kd ≤ 8
      · rw [if_pos h5] at this ⊢; exact this
      rw [if_neg h5] at this ⊢
      by_cases h9 : kd = 9
      · rw [if_pos h9] at this ⊢; exact this
      rw [if_neg h9] at this ⊢
      by_cases h10 : kd = 10
      · rw [if_pos h10] at this; rw [if_pos (by omega)]; exact this
      rw [if_neg h10] at this
      by_cases h11 : kd = 11
      · rw [if_pos h11] at this; rw [if_pos (by omega)]; exact this
      · rw [if_neg h11] at this; rw [if_neg (by omega)]; exact this
  · rw [decide_eq_false hc]; rfl
theorem shp_eq (kd : Int) (s : ByteArray) (cols : Int) (n : Nat) : (textB kd s && kidsB kd cols n) = shp kd s cols n := by
  have em : (s.toList == []) = s.toList.isEmpty := by cases s.toList <;> rfl
  have hc : decide (cols = 0) = (cols == 0) := by rw [Bool.eq_iff_iff]; simp
  unfold textB kidsB shp shR shM shT
  by_cases h1 : kd = 1
  · subst h1; simp [em, hc, Bool.and_assoc]
  by_cases h12 : kd = 12
  · subst h12; simp [em, hc, Bool.and_assoc]
  by_cases h2 : kd = 2
  · subst h2; simp [em, hc, Bool.and_assoc]
  by_cases h3 : kd = 3
  · subst h3; simp [em, hc, Bool.and_assoc]
  by_cases h4 : kd = 4
  · subst h4; simp [em, hc, Bool.and_assoc, Bool.and_left_comm, Bool.and_comm]
  by_cases h10 : kd = 10
  · subst h10; simp [em, hc, Bool.and_assoc]
  by_cases h11 : kd = 11
  · subst h11; simp [em, hc, Bool.and_assoc]
  by_cases h9 : kd = 9
  · subst h9; simp [em, hc, Bool.and_assoc]
  by_cases h5 : 5 ≤ kd ∧ kd ≤ 8
  · simp [h1, h12, h2, h3, h4, h10, h11, h9, h5, em, hc, Bool.and_assoc]
  · simp [h1, h12, h2, h3, h4, h10, h11, h9, h5, em, hc, Bool.and_assoc]
end Go.Proofs.YtagkhoeidjlahaaDoor.G.Pure
namespace Go.Proofs.YtagkhoeidjlahaaDoor.G
open Go.RowKit Go.Proofs.YtagkhoeidjlahaaDoorW.PrintWords Go.Proofs.YtagkhoeidjlahaaDoorW.PrintLast Go.Proofs.YtagkhoeidjlahaaDoorW.PrintMore
attribute [local go_sem] max2_int min2_int max_two min_two max_three min_three max_four min_four
set_option linter.unusedVariables false
set_option linter.unusedSimpArgs false
def slices_Clone_int_int.f (l0 : List Int) : Option (List Int) := if l0.length < 17592186044416 then some l0 else none
set_option maxHeartbeats 4000000 in

theorem slices_Clone_int_int.calls (A0 : Option Addr) (c0 : Nat) (l0 : List Int) (r : List Int) (w : World) (hr0 : Kd.C (Kd.int .i64) w A0 l0.length l0) (hc0 : l0.length ≤ c0) (h : slices_Clone_int_int.f l0 = some r) :
    Calls Tryd.prog 81 #[.slice A0 l0.length c0] w fun e w' => ∃ v0_ : Value, e = .returned (v0_) ∧ Kd.R (Kd.int .i64) 3 w' w.heap.size (fun _ => True) v0_ r ∧ Below w.heap.size w w' := by
  unfold slices_Clone_int_int.f at h
  split at h
  · rename_i hlt
    obtain rfl := Option.some.inj h
    clear h
    have HB := Aside0.mk (Below.refl w.heap.size w)
    have HL := Aside0.mk hlt
    have HR := Aside0.mk hr0
    have HC := Aside0.mk hc0
    rcases A0 with _ | ad
    · have hl : l0 = [] := by
        rcases l0 with _ | ⟨x, l⟩
        · rfl
        · obtain ⟨ad, he, _⟩ := hr0.2.2 (by simp)
          cases he
      subst hl
      clear hr0 hc0 hlt
      have heq := fun W => Lib.run_eql_slice_nil (P := Tryd.prog) W 26 3 none 0 c0 0 0 Tryd.underlying26
      go_enter Tryd.func81, Tryd.ntmps81
      go_wp2
      go_ret
      exact ⟨_, rfl, Kd.R_nil _ _ _ _ _, Below.refl _ _⟩
    · have heq := fun W => Lib.run_eql_slice_nil (P := Tryd.prog) W 26 3 (some ad) l0.length c0 0 0 Tryd.underlying26
      clear hr0 hc0 hlt
      go_enter Tryd.func81, Tryd.ntmps81
      go_wp2_with (first | ((with_reducible refine gate_dst (N := 5) rfl ?_); refine Kd.R_lit (Kd.int .i64) _ 3 ?hg (N := 5) ?hd (xs := ([] : List Int)) (inner := []) (ok := fun _ => True) (okp := fun _ => True) ?hr ?hp (fun _ hk => hk) trivial (Below.refl _ _) (Nat.le_refl _) (by simp) ?_; (case hd => rfl); (case hg => rfl); (case hr => first | (go_simp; done) | (go_simp; rfl)); (case hp => exact (Reps.none _ _)); intro v5 w5 ho hb hg_ hnew_; have HO := Aside0.mk ho; have HB1 := Aside0.mk hb; clear ho hb hg_ hnew_) | ((with_reducible refine gate_builtin (b := .append) (xs := #[.tmp 5, .tmp 6]) rfl ?_); at_builtin; refine Kd.R_append_rows (Kd.int .i64) (w0 := w) w.heap.size rfl (.tmp 5) (.tmp 6) 26 3 (.int .i64 0) 8 rfl Tryd.underlying26 info3 rfl (by decide) (by omega) v5 [] l0 _ _ _ (fun k_ => True) (fun _ => False) rfl rfl ?aO ?aR (fun _ _ h => h) (fun _ h => h.elim) (fun _ _ => trivial) ?aB ?aS ?aL ?_; (case aR => exact Kd.C_below HR.out HB1.out); (case aB => exact HB1.out); (case aO => exact HO.out); (case aS => exact HB1.out.size); (case aL => have := HL.out; simp; omega); intro v6 w6 ho hb hg hat; have HO2 := Aside0.mk ho; have HB2 := Aside0.mk hb; clear ho hb hg hat))
      go_ret
      exact ⟨_, rfl, by simpa using HO2.out, HB2.out⟩
  · cases h
end Go.Proofs.YtagkhoeidjlahaaDoor.G
namespace Go.Proofs.YtagkhoeidjlahaaDoor.G
open Go.RowKit Go.Proofs.YtagkhoeidjlahaaDoorW.PrintWords Go.Proofs.YtagkhoeidjlahaaDoorW.PrintLast Go.Proofs.YtagkhoeidjlahaaDoorW.PrintMore
attribute [local go_sem] max2_int min2_int max_two min_two max_three min_three max_four min_four
set_option linter.unusedVariables false
set_option linter.unusedSimpArgs false
section poa
mutual

def cnt : S36 → Nat
  | ⟨_, _, _, l⟩ => 1 + cntL l
def cntL : List S36 → Nat
  | [] => 0
  | x :: l => cnt x + cntL l
end
theorem cnt_eq (x : S36) : cnt x = 1 + cntL x.f3 := by cases x; simp [cnt]
theorem cntL_mem : ∀ {l : List S36} {x : S36}, x ∈ l → cnt x ≤ cntL l
  | y :: l, x, h => by
    rw [cntL]
    rcases List.mem_cons.1 h with rfl | h
    · omega
    · have := cntL_mem h; omega
mutual

def posKids (p : List Int) (i : Int) : List S36 → List (List Int)
  | [] => [p ++ [i]]
  | x :: l => (p ++ [i]) :: (posItem p i x ++ posKids p (i + 1) l)
def posItem (p : List Int) (i : Int) : S36 → List (List Int)
  | ⟨_, _, _, l⟩ => posSlots p i 0 l
def posSlots (p : List Int) (i s : Int) : List S36 → List (List Int)
  | [] => []
  | y :: l => posSlot (p ++ [i, s]) y ++ posSlots p i (s + 1) l
def posSlot (p : List Int) : S36 → List (List Int)
  | ⟨_, _, _, l⟩ => posKids p 0 l
end
theorem posItem_eq (p : List Int) (i : Int) (x : S36) : posItem p i x = posSlots p i 0 x.f3 := by cases x; simp [posItem]
theorem posSlot_eq (p : List Int) (y : S36) : posSlot p y = posKids p 0 y.f3 := by cases y; simp [posSlot]
open Go.Shelf
attribute [local go_sem] Oper.semAt_some
def Keep (W W' : World) : Prop := W.heap.size ≤ W'.heap.size ∧ ∀ (k : Nat) (cells : Array Value) (t : Nat) (fr : Nat × Nat), W.heap[k]? = some (.cells cells t fr) → (t = 3 ∨ t = 36) → W'.heap[k]? = some (.cells cells t fr)
theorem Keep.refl (W : World) : Keep W W := ⟨Nat.le_refl _, fun _ _ _ _ h _ => h⟩
theorem Keep.trans {A B C : World} (h : Keep A B) (k : Keep B C) : Keep A C := ⟨Nat.le_trans h.1 k.1, fun i cs t fr hc ht => k.2 i cs t fr (h.2 i cs t fr hc ht) ht⟩
theorem Keep.below {A B : World} (h : Below A.heap.size A B) : Keep A B := ⟨h.size, fun i cs t fr hc _ => blk_below hc h⟩
theorem Keep.R {W W' : World} {base : Nat} {ok : Nat → Prop} {v : Value} {xs : List Int} (hk : Keep W W') (h : Kd.R (Kd.int .i64) 3 W base ok v xs) : Kd.R (Kd.int .i64) 3 W' base ok v xs := by
  refine Kd.R_mono (Kd.R_step (Kd.R_bound h) fun k hok _ => ?_) (fun k hk => hk.1)
  obtain ⟨_, _, _, q, hq, cells, hc⟩ := hok
  have : q = 3 := by simpa [Kd.int, Kd.scalar] using hq
  subst this
  rw [hc, hk.2 _ _ _ _ hc (.inl rfl)]
structure Yl (l N : Nat) (w0 : World) (J : List (List Int) → World → Prop) : Prop where
  below : ∀ {pre : List (List Int)} {W : World}, J pre W → Below w0.heap.size w0 W
  step : ∀ {pre : List (List Int)} {W W' : World}, J pre W → Below W.heap.size W W' → J pre W'
  yield : ∀ (m : Nat) (pre : List (List Int)) (xs : List Int) (v : Value) (W : World), J pre W → pre.length < N → Kd.R (Kd.int .i64) 3 W w0.heap.size (fun _ => True) v xs →
    YieldAt Fence.wide m Tryd.prog l #[v] W fun e W' => e = .returned (.bool true) ∧ J (pre ++ [xs]) W' ∧ Keep W W'
theorem posKids_length : ∀ (p : List Int) (i : Int) (l : List S36), 1 ≤ (posKids p i l).length := fun p i l => by cases l <;> simp [posKids]
theorem yield_below {wr w2 w3 : World} {v2 : Value} {t : List Int} {o : Obj} (hb2 : Below wr.heap.size wr w2) (ho2 : Kd.R (Kd.int .i64) 3 w2 wr.heap.size (fun _ => True) v2 t) (hg3 : (w2.alloc o).grownBy w3 v2.ownBlock) : Below wr.heap.size wr w3 :=
  pw_below_grown (below_alloc hb2 o) v2.ownBlock (by have := hb2.size; simp; omega) hg3 (fun k hk => Kd.R_base ho2 k hk)
theorem yield_row {w3 : World} {base b0 n : Nat} {v3 : Value} {t : List Int} {x : Int} (h : w3.ownsRow base 3 1 v3 n (encs (Value.int .i64) t ++ [.int .i64 x])) (hb : b0 ≤ base) : Kd.R (Kd.int .i64) 3 w3 b0 (fun _ => True) v3 (t ++ [x]) := by
  have hl : n = (t ++ [x]).length := by have := h.1; simp [encs] at this; simp; omega
  subst hl
  exact Kd.R_lower (Kd.R_of_own (by simpa [encs] using h) (fun _ _ => trivial)) hb
def walk10.T : Bool × List (List Nat × List Nat) := (true, [([], []), ([], []), ([1], [1]), ([], []), ([], []), ([3, 4], [3, 4]), ([2, 5, 2], [2, 5]), ([], []), ([0, 6, 7, 6], [0, 6, 7]), ([8], [8])])
def walk10.B : List Nat := [0, 0, 2, 0, 0, 24, 62, 0, 255, 511]
theorem walk10.tab : rtab .any (opsOf Tryd.f103 10) = walk10.T := by kernel_rfl
theorem walk10.bits : waitsOk walk10.T.2 walk10.B = true := by kernel_rfl
set_option maxHeartbeats 4000000 in
set_option maxRecDepth 100000 in
theorem walk_calls {l N : Nat} {w0 : World} {J : List (List Int) → World → Prop} (Y : Yl l N w0 J) (hN : N ≤ 1000000) : ∀ (sz : Nat) (kids : List S36), cntL kids ≤ sz → ∀ (k0 : Int) (s0 : ByteArray) (c0 : Int) (A : Option Addr) (c : Nat) (vp : Value) (path : List Int) (pre : List (List Int)) (W : World),
    Kd.C k36 w0 A kids.length kids → kids.length ≤ c → Kd.R (Kd.int .i64) 3 W w0.heap.size (fun _ => True) vp path → J pre W → pre.length + (posKids path 0 kids).length ≤ N → path.length + 2 * sz ≤ 1000000 →
    Calls Tryd.prog 103 #[.agg #[.int .i64 k0, .string s0, .int .i64 c0, .slice A kids.length c], vp, .func (.yield l) #[] #[]] W fun e W' => e = .returned (.bool true) ∧ J (pre ++ posKids path 0 kids) W' ∧ Keep W W' := by
  intro sz
  induction sz using Nat.strongRecOn with
  | _ sz ih =>
  intro kids hsz k0 s0 c0 A c vp path pre W hC hc hp hJ hNl hpl
  have hu36 := Tryd.underlying36
  have hm := hC.2.1
  have HR := Aside0.mk hC
  have HC := Aside0.mk hc
  have HP := Aside0.mk hp
  have HJ := Aside0.mk hJ
  have HN := Aside0.mk hNl
  clear hC hc hp hJ hNl
  refine (callsIn_wide (n := 3)).1 (callsIn_of_wp Tryd.func103 rfl trivial ?_ rfl)
  simp only [Tryd.ntmps103, List.size_toArray, List.length_cons, List.length_nil, Nat.reduceAdd, Nat.reduceSub, Array.replicate_succ, Array.replicate_zero, List.push_toArray, List.append_toArray, List.nil_append, List.cons_append]
  obtain ⟨A1, c1, rfl, hc1, hC1⟩ := Kd.R_reads HP.out
  have HC1 := Aside0.mk hc1
  clear hc1 hC1
  have HJ0 := Aside0.mk (Y.step HJ.out (below_alloc (Below.refl W.heap.size W) (.cells #[.int .i64 k0, .string s0, .int .i64 c0, .slice A kids.length c] 36)))
  have HX0 := Aside0.mk (blk_new W (.cells #[.int .i64 k0, .string s0, .int .i64 c0, .slice A kids.length c] 36))
  have HP0 := Aside0.mk (Kd.R_alloc HP.out (.cells #[.int .i64 k0, .string s0, .int .i64 c0, .slice A kids.length c] 36))
  have HK0 := Aside0.mk (Keep.below (below_alloc (Below.refl W.heap.size W) (.cells #[.int .i64 k0, .string s0, .int .i64 c0, .slice A kids.length c] 36)))
  gi_wp2
  gi_loopw [7] (fun v7 wr => ∃ (i : Nat) (dn : List (List Int)), v7 = .int .i64 i ∧ Aside0 (i ≤ kids.length) ∧ Aside0 (dn ++ posKids path i (kids.drop i) = posKids path 0 kids) ∧ Aside0 (J (pre ++ dn) wr) ∧ Aside0 (Keep W wr) ∧ Aside0 (wr.heap[W.heap.size]? = some (.cells #[.int .i64 k0, .string s0, .int .i64 c0, .slice A kids.length c] 36 (0, 0))) ∧ Aside0 (Kd.R (Kd.int .i64) 3 wr w0.heap.size (fun _ => True) (.slice A1 path.length c1) path)) (fun v7 _ => kids.length + 1 - (intOf v7).toNat)
  case atStart => exact ⟨0, [], rfl, ⟨Nat.zero_le _⟩, ⟨by simp⟩, ⟨by simpa using HJ0.out⟩, HK0, HX0, HP0⟩
  case round =>
    obtain ⟨i, dn, rfl, HI, HE, HJi, HKi, HXi, HPi⟩ := hrel
    clear HJ0 HX0 HP0 HK0 HJ
    have hi := HI.out
    have hb1 : decide ((i : Int) ≤ (kids.length : Int)) = true := decide_eq_true (by omega)
    have qx3 : wr.cell? ⟨W.heap.size, 3, none⟩ = some (.slice A kids.length c) := (blk_cell HXi.out 3).trans rfl
    have hC1 := Kd.R_reads' HPi.out
    have HC1r := Aside0.mk hC1.2.2
    clear hC1
    have hlp : path.length < 17592186044416 := by omega
    obtain ⟨i0, hi0, hz0, hz1, hz2⟩ := info_parts info3
    have hlen : (pre ++ dn).length < N := by
      have h1 := congrArg List.length HE.out
      have h2 := posKids_length path i (kids.drop i)
      have h3 := HN.out
      simp only [List.length_append] at h1 ⊢
      omega
    by_cases hlast : i = kids.length
    · have hd2 : decide ((i : Int) = (kids.length : Int)) = true := decide_eq_true (by omega)
      have hd3 : ((i : Int) == (kids.length : Int)) = true := by rw [beq_iff_eq]; omega
      have HLast := Aside0.mk hlast
      clear hlast
      gi_wp2_with (first | ((refine ⟨trivial, ?_⟩); gi_at_call 81; refine (callsIn_wide.2 (slices_Clone_int_int.calls A1 c1 path path _ HC1r.out HC1.out (by simp [slices_Clone_int_int.f, hlp]))).mono ?_; rintro e w2 ⟨v2, rfl, ho2, hb2⟩; have HO2 := Aside0.mk ho2; have HB2 := Aside0.mk hb2; have OW2 := Aside0.mk (Kd.own_of_R ho2); have hz2' := hb2.size; clear ho2 hb2) | (gi_at_builtin; refine wpListIn_append_own _ rfl (.tmp 19) (.tmp 21) 26 rfl wr.heap.size 3 i0 (.int .i64 0) 1 8 Tryd.underlying26 hi0 hz0 hz1 hz2 rfl (by decide) v2 path.length (encs (Value.int .i64) path) rfl (OW2.out.alloc _) ⟨w2.heap.size, 0, none⟩ 1 1 [.int .i64 i] rfl rfl ?ac1 ?ac2 ?ac3 ?ac4 ?ac5 ?_; (case ac1 => exact cell_one_new _ _ _); (case ac2 => simp [Value.oneCell']); (case ac3 => unfold maxLen; omega); (case ac4 => omega); (case ac5 => simp; omega); intro v3 w3 hown3 hg3 _; have hB3 := yield_below (HB2.out) (HO2.out) hg3; have hR3 := yield_row hown3 (Nat.le_trans (Y.below HJi.out).size (Nat.le_refl _)); obtain ⟨fn, tmps, assign, body, hy, hRd⟩ := Y.yield 2 (pre ++ dn) (path ++ [(i : Int)]) v3 w3 (Y.step HJi.out hB3) hlen hR3; have HB3 := Aside0.mk hB3; have HRd := Aside0.mk hRd; clear hown3 hg3 hB3 hR3 hRd) | (refine HRd.out.mono ?_; rintro e w4 ⟨rfl, hj4, hk4⟩; have HJ4 := Aside0.mk hj4; have HK4 := Aside0.mk hk4; have HX4 := Aside0.mk (hk4.2 _ _ _ _ (blk_below HXi.out HB3.out) (.inr rfl)); have qx4 : w4.cell? ⟨W.heap.size, 3, none⟩ = some (.slice A kids.length c) := (blk_cell HX4.out 3).trans rfl; clear hj4 hk4 hy))
      all_goals (go_ret; refine ⟨rfl, ?_, HKi.out.trans ((Keep.below HB3.out).trans HK4.out)⟩; have hE := HE.out; rw [HLast.out, List.drop_length, posKids, ← HLast.out] at hE; rw [← hE, ← List.append_assoc]; exact HJ4.out)
    · have hi2 : i < kids.length := by omega
      have hd2 : decide ((i : Int) = (kids.length : Int)) = false := decide_eq_false (by omega)
      have hd3 : ((i : Int) == (kids.length : Int)) = false := beq_eq_false_iff_ne.2 (by omega)
      obtain ⟨ad, A3, c3, e, hx0, hx1, hx2, hx3, hl3, hi3⟩ := at_T36 HR.out (i : Int) (by omega) (by omega)
      simp only [Int.toNat_natCast] at hx0 hx1 hx2 hx3
      obtain ⟨y, hy⟩ : ∃ y, y = rd_T36 kids (i : Int) := ⟨_, rfl⟩
      rw [← hy] at hx0 hx1 hx2 hx3 hl3 hi3
      have hd : kids.drop i = y :: kids.drop (i + 1) := by rw [List.drop_eq_getElem_cons hi2, hy]; simp [rd_T36, hi2]
      have HY := Aside0.mk hd
      have HR3 := Aside0.mk hi3
      have HC3 := Aside0.mk hl3
      clear hy hd hi3 hl3
      subst e
      gi_wp2_with (first | ((refine ⟨trivial, ?_⟩); gi_at_call 81; refine (callsIn_wide.2 (slices_Clone_int_int.calls A1 c1 path path _ HC1r.out HC1.out (by simp [slices_Clone_int_int.f, hlp]))).mono ?_; rintro e w2 ⟨v2, rfl, ho2, hb2⟩; have HO2 := Aside0.mk ho2; have HB2 := Aside0.mk hb2; have OW2 := Aside0.mk (Kd.own_of_R ho2); have hz2' := hb2.size; clear ho2 hb2) | (gi_at_builtin; refine wpListIn_append_own _ rfl (.tmp 19) (.tmp 21) 26 rfl wr.heap.size 3 i0 (.int .i64 0) 1 8 Tryd.underlying26 hi0 hz0 hz1 hz2 rfl (by decide) v2 path.length (encs (Value.int .i64) path) rfl (OW2.out.alloc _) ⟨w2.heap.size, 0, none⟩ 1 1 [.int .i64 i] rfl rfl ?ac1 ?ac2 ?ac3 ?ac4 ?ac5 ?_; (case ac1 => exact cell_one_new _ _ _); (case ac2 => simp [Value.oneCell']); (case ac3 => unfold maxLen; omega); (case ac4 => omega); (case ac5 => simp; omega); intro v3 w3 hown3 hg3 _; have hB3 := yield_below (HB2.out) (HO2.out) hg3; have hR3 := yield_row hown3 (Nat.le_trans (Y.below HJi.out).size (Nat.le_refl _)); obtain ⟨fn, tmps, assign, body, hy, hRd⟩ := Y.yield 2 (pre ++ dn) (path ++ [(i : Int)]) v3 w3 (Y.step HJi.out hB3) hlen hR3; have HB3 := Aside0.mk hB3; have HRd := Aside0.mk hRd; clear hown3 hg3 hB3 hR3 hRd) | (refine HRd.out.mono ?_; rintro e w4 ⟨rfl, hj4, hk4⟩; have HJ4 := Aside0.mk hj4; have HK4 := Aside0.mk hk4; have HX4 := Aside0.mk (hk4.2 _ _ _ _ (blk_below HXi.out HB3.out) (.inr rfl)); have qx4 : w4.cell? ⟨W.heap.size, 3, none⟩ = some (.slice (some ad) kids.length c) := (blk_cell HX4.out 3).trans rfl; clear hj4 hk4 hy; (have hbw := Y.below HJ4.out; have hy0 := (hbw.cell (World.block_lt_of_cell? w0 _ hx0)).trans hx0; have hy3 := (hbw.cell (World.block_lt_of_cell? w0 _ hx3)).trans hx3; clear hbw)))
      have HKb := Aside0.mk ((Keep.below HB3.out).trans HK4.out)
      have HP4 := Aside0.mk (Keep.R HKb.out HPi.out)
      have HKW := Aside0.mk (HKi.out.trans HKb.out)
      have hm3 := HR3.out.2.1
      have HLast := Aside0.mk hlast
      clear HKb HKi HB3 HK4 HPi HRd HO2 HB2 OW2 hz2' hlast HJi HXi qx3 hb1 hd2 hd3
      gi_loopw [37] (fun v37 wt => ∃ (s : Nat) (d2 : List (List Int)), v37 = .int .i64 s ∧ Aside0 (s ≤ y.f3.length) ∧ Aside0 (d2 ++ posSlots path i s (y.f3.drop s) = posItem path i y) ∧ Aside0 (J (pre ++ dn ++ [path ++ [(i : Int)]] ++ d2) wt) ∧ Aside0 (Keep W wt) ∧ Aside0 (wt.heap[W.heap.size]? = some (.cells #[.int .i64 k0, .string s0, .int .i64 c0, .slice (some ad) kids.length c] 36 (0, 0))) ∧ Aside0 (Kd.R (Kd.int .i64) 3 wt w0.heap.size (fun _ => True) (.slice A1 path.length c1) path)) (fun v37 _ => y.f3.length + 1 - (intOf v37).toNat)
      case atStart => exact ⟨0, [], rfl, ⟨Nat.zero_le _⟩, ⟨by simp [posItem_eq]⟩, ⟨by simpa using HJ4.out⟩, HKW, HX4, HP4⟩
      case round =>
        obtain ⟨s, d2, rfl, HS, HD, HJs, HKs, HXs, HPs⟩ := hrel
        clear HJ4 HKW HX4 HP4
        have hs := HS.out
        by_cases hsl : s = y.f3.length
        · have hd4 : decide ((s : Int) < (y.f3.length : Int)) = false := decide_eq_false (by omega)
          have hd4n : decide (s < y.f3.length) = false := decide_eq_false (by omega)
          have HSl := Aside0.mk hsl
          clear hsl
          gi_wp2
          all_goals (refine ⟨⟨i + 1, dn ++ [path ++ [(i : Int)]] ++ d2, by push_cast; rfl, ⟨by omega⟩, ⟨?_⟩, ⟨by simpa using HJs.out⟩, HKs, HXs, HPs⟩, ?_⟩; (have h1 := HD.out; rw [HSl.out, List.drop_length, posSlots, List.append_nil] at h1; have h2 := HE.out; rw [HY.out, posKids] at h2; rw [h1, ← h2]; push_cast; simp); (simp [intOf]; omega))
        · have hd4 : decide ((s : Int) < (y.f3.length : Int)) = true := decide_eq_true (by omega)
          have hd4n : decide (s < y.f3.length) = true := decide_eq_true (by omega)
          have hs2 : s < y.f3.length := by omega
          clear hsl
          obtain ⟨ad5, A5, c5, e5, hx50, hx51, hx52, hx53, hl5, hi5⟩ := at_T36 HR3.out (s : Int) (by omega) (by omega)
          simp only [Int.toNat_natCast] at hx50 hx51 hx52 hx53
          obtain ⟨z, hz⟩ : ∃ z, z = rd_T36 y.f3 (s : Int) := ⟨_, rfl⟩
          rw [← hz] at hx50 hx51 hx52 hx53 hl5 hi5
          have hd5 : y.f3.drop s = z :: y.f3.drop (s + 1) := by rw [List.drop_eq_getElem_cons hs2, hz]; simp [rd_T36, hs2]
          have HZ := Aside0.mk hd5
          have HR5 := Aside0.mk hi5
          have HC5 := Aside0.mk hl5
          clear hz hd5 hi5 hl5
          subst e5
          have hbw := Y.below HJs.out
          replace hx50 := (hbw.cell (World.block_lt_of_cell? w0 _ hx50)).trans hx50
          replace hx51 := (hbw.cell (World.block_lt_of_cell? w0 _ hx51)).trans hx51
          replace hx52 := (hbw.cell (World.block_lt_of_cell? w0 _ hx52)).trans hx52
          replace hx53 := (hbw.cell (World.block_lt_of_cell? w0 _ hx53)).trans hx53
          have HBw := Aside0.mk hbw
          clear hbw
          gi_wp2_with fail
          have HBb := Aside0.mk (below_drew1 (below_alloc (Below.refl wr.heap.size wr) (.cells #[.int .i64 z.f0, .string z.f1, .int .i64 z.f2, .slice A5 z.f3.length c5] 36)))
          have BK := Aside0.mk (blk_drew (blk_new wr (.cells #[.int .i64 z.f0, .string z.f1, .int .i64 z.f2, .slice A5 z.f3.length c5] 36)))
          have hlz := cnt_eq z
          have hly := cntL_mem (l := y.f3) (x := z) (List.mem_of_mem_drop (i := s) (by rw [HZ.out]; simp))
          have hlk := cntL_mem (l := kids) (x := y) (List.mem_of_mem_drop (i := i) (by rw [HY.out]; simp))
          have hcy := cnt_eq y
          have hltz : cntL z.f3 < sz := by omega
          have HLT := Aside0.mk hltz
          have HPL := Aside0.mk (show path.length + 2 + 2 * cntL z.f3 ≤ 1000000 by omega)
          clear hlz hly hlk hcy hltz hx50 hx51 hx52 hx53 hx0 hx1 hx2 hx3 hy0 hy3 qx4
          refine (wpIn_wide).2 ?_
          refine start_ (n := 10) (S := fun w' => w'.cell? ⟨wr.heap.size, 0, none⟩ = some (.int .i64 z.f0) ∧ w'.cell? ⟨wr.heap.size, 1, none⟩ = some (.string z.f1) ∧ w'.cell? ⟨wr.heap.size, 2, none⟩ = some (.int .i64 z.f2) ∧ w'.cell? ⟨wr.heap.size, 3, none⟩ = some (.slice A5 z.f3.length c5)) (ds := []) #[false, false, false, false, false, false, false, false, false, false] (by kernel_rfl) rfl rfl ⟨(blk_cell BK.out 0).trans rfl, (blk_cell BK.out 1).trans rfl, (blk_cell BK.out 2).trans rfl, (blk_cell BK.out 3).trans rfl⟩ (fun hHeld => ?_); refine with_tabW walk10.tab walk10.bits (fun HT_ HW_ => ?_)
          generalize (wr.alloc (.cells #[.int .i64 z.f0, .string z.f1, .int .i64 z.f2, .slice A5 z.f3.length c5] 36)).drew = wb at HBb BK hHeld ⊢
          have HJb := Aside0.mk (Y.step HJs.out HBb.out)
          have HPb := Aside0.mk (Keep.R (Keep.below HBb.out) HPs.out)
          have HCb := Aside0.mk (Kd.R_reads' HPb.out).2.2
          have HB := Aside0.mk (Below.refl wb.heap.size wb)
          obtain ⟨q2, hq2⟩ : ∃ q : List Int, q = [(i : Int), (s : Int)] := ⟨_, rfl⟩
          have HQ := Aside0.mk hq2
          clear hq2
          refine pure_ (i := 1) (N := some 43) (v := ?_) (a' := ?_) #[false, true, false, false, false, false, false, false, false, false] rfl rfl (any_of HT_.out (by kernel_rfl)) (fun _ _ _ h => h) (Or.inl ⟨by rfl, ?_⟩) ?_ ?_
          rotate_left
          · intro w'
            go_simp
            with_reducible rfl
          rotate_left
          · simp only [Act.put, List.setIfInBounds_toArray, List.set_cons_zero, List.set_cons_succ, i64_w, i32_w]
            rfl
          refine pure_ (i := 3) (N := some 45) (v := ?_) (a' := ?_) #[false, true, false, true, false, false, false, false, false, false] rfl rfl (any_of HT_.out (by kernel_rfl)) (fun _ _ _ h => h) (Or.inl ⟨by rfl, ?_⟩) ?_ ?_
          rotate_left
          · intro w'
            go_simp
            with_reducible rfl
          rotate_left
          · simp only [Act.put, List.setIfInBounds_toArray, List.set_cons_zero, List.set_cons_succ, i64_w, i32_w]
            rfl
          refine pure_ (i := 4) (N := some 46) (v := ?_) (a' := ?_) #[false, true, false, true, true, false, false, false, false, false] rfl rfl (any_of HT_.out (by kernel_rfl)) (fun _ _ _ h => h) (Or.inl ⟨by rfl, ?_⟩) ?_ ?_
          rotate_left
          · intro w'
            go_simp
            with_reducible rfl
          rotate_left
          · simp only [Act.put, List.setIfInBounds_toArray, List.set_cons_zero, List.set_cons_succ, i64_w, i32_w]
            rfl
          refine pure_ (i := 7) (N := some 49) (v := ?_) (a' := ?_) #[false, true, false, true, true, false, false, true, false, false] rfl rfl (any_of HT_.out (by kernel_rfl)) (fun _ _ _ h => h) (Or.inl ⟨by rfl, ?_⟩) ?_ ?_
          rotate_left
          · intro w'
            go_simp
            with_reducible rfl
          rotate_left
          · simp only [Act.put, List.setIfInBounds_toArray, List.set_cons_zero, List.set_cons_succ, i64_w, i32_w]
            rfl
          refine take_ (i := 0) (N := some 42) (v := ?_) (a' := ?_) #[true, true, false, true, true, false, false, true, false, false] rfl rfl (take_ofW HT_.out HW_.out (by kernel_rfl)) (fun _ _ _ h => h) (Or.inl ⟨by rfl, ?_⟩) hHeld ?_ ?_
          rotate_left
          · rintro w' ⟨s0, s1, s2, s3⟩
            go_simp
            with_reducible rfl
          rotate_left
          · simp only [Act.put, List.setIfInBounds_toArray, List.set_cons_zero, List.set_cons_succ, i64_w, i32_w]
            rfl
          refine join_ (σ := Value × Value) 3 #[true, true, true, true, true, true, false, true, false, false] (fun s_ => [(44, s_.1), (47, s_.2)]) (fun s_ w' => (w'.cell? ⟨wr.heap.size, 0, none⟩ = some (.int .i64 z.f0) ∧ w'.cell? ⟨wr.heap.size, 1, none⟩ = some (.string z.f1) ∧ w'.cell? ⟨wr.heap.size, 2, none⟩ = some (.int .i64 z.f2) ∧ w'.cell? ⟨wr.heap.size, 3, none⟩ = some (.slice A5 z.f3.length c5)) ∧ (Kd.R (Kd.int .i64) 3 w' wb.heap.size (fun k_ => some k_ ≠ (s_.2 : Value).ownBlock) s_.1 path) ∧ (Kd.R (Kd.int .i64) 3 w' wb.heap.size (fun k_ => some k_ ≠ (s_.1 : Value).ownBlock) s_.2 q2) ∧ (w'.heap[wr.heap.size]? = some (.cells #[.int .i64 z.f0, .string z.f1, .int .i64 z.f2, .slice A5 z.f3.length c5] 36 (0, 0))) ∧ (Below wb.heap.size wb w')) ?_ ?_
          rotate_left
          · intro hCont
            refine two_ (i := 2) (j := 5) (Ni := some 44) (Nj := some 47) #[true, true, true, true, true, false, false, true, false, false] #[true, true, false, true, true, true, false, true, false, false] rfl rfl rfl rfl (two_of HT_.out (by kernel_rfl)) (by decide) (by decide) (fun K hK => ?_) (fun K hK => ?_)
            · skip
              refine goes_ Tryd.func81 (by kernel_rfl) rfl #[.slice A1 path.length c1] (by rfl) rfl rfl (by (try simp only [List.map_toArray, List.map_cons, List.map_nil]); first | done | rfl) ?_
              with_reducible refine (slices_Clone_int_int.calls _ _ path path _ ?side1 ?side2 (by simp [slices_Clone_int_int.f, hlp])).mono ?_
              (case side1 => repeat (first | exact (Kd.C_below HCb.out HB.out) | (with_reducible refine Kd.C_alloc ?_ _) | (with_reducible refine Kd.C_drewN ?_ _) | (with_reducible refine Kd.C_drew ?_)))
              (case side2 => exact HC1.out)
              rintro e w6 ⟨v819, rfl, ho0, hb⟩
              refine ⟨_, rfl, ?_⟩
              have n0_ := Aside0.mk (Kd.R_lower ho0 (below_size (by repeat (first | (with_reducible first | exact HB.out | apply below_alloc | apply pw_below_drewN | apply below_drew1) | exact HB.out))))
              have n1_ := Aside0.mk (blk_below (g := wr.heap.size) (o := .cells #[.int .i64 z.f0, .string z.f1, .int .i64 z.f2, .slice A5 z.f3.length c5] 36 (0, 0)) (by (with_reducible repeat (first | refine blk_drewN ?_ _ | refine blk_drew ?_ | refine blk_alloc ?_ _)); exact BK.out) hb)
              have n2_ := Aside0.mk (below_step (by repeat (first | (with_reducible first | exact HB.out | apply below_alloc | apply pw_below_drewN | apply below_drew1) | exact HB.out)) hb)
              clear BK HB
              have HO820 := n0_
              have BK := n1_
              have HB := n2_
              clear n0_ n1_ n2_
              clear hb ho0
              refine hK.out _ _ ⟨(blk_cell BK.out 0).trans rfl, (blk_cell BK.out 1).trans rfl, (blk_cell BK.out 2).trans rfl, (blk_cell BK.out 3).trans rfl⟩ (fun hHeld => ?_)
              clear hK K
              refine norm_ (a' := ?_) ?_ ?_
              rotate_left
              · show Act.put _ (some 44) _ = _
                simp only [Act.put, List.setIfInBounds_toArray, List.set_cons_zero, List.set_cons_succ, i64_w, i32_w]
                rfl
              refine one_ (i := 5) (N := some 47) #[true, true, true, true, true, true, false, true, false, false] rfl rfl (one_of HT_.out (by kernel_rfl)) (by decide) (fun K hK => ?_)
              refine Kd.R_lit_step (Kd.int .i64) _ 3 ?hg (N := 47) ?hd (xs := ([(i : Int), (s : Int)] : List Int)) (inner := [.int .i64 i, .int .i64 s]) (ok := fun _ => True) (okp := fun _ => True) ?hr ?hp (fun _ hk => hk) trivial (Below.refl _ _) (Nat.le_refl _) (by simp) ?_; (case hd => rfl); (case hg => rfl); (case hr => first | (go_simp; done) | (go_simp; rfl)); (case hp => exact (Reps.one (show Kd.M (Kd.int .i64) _ _ _ (i : Int) [.int .i64 i] from rfl) (Reps.one (show Kd.M (Kd.int .i64) _ _ _ (s : Int) [.int .i64 s] from rfl) (Reps.none _ _))))
              intro v822 w7 ho8 hb hg_ hnew_
              clear hg_ hnew_
              rw [← HQ.out] at ho8
              have m0_ := Aside0.mk (Kd.R_elder' (by (with_reducible repeat (first | apply Kd.R_alloc | apply Kd.R_drewN | apply Kd.R_drew)); exact HO820.out) (Kd.R_base ho8) hb)
              have n0_ := Aside0.mk (Kd.R_lower (Kd.R_new' ho8 (Kd.R_lt (by (with_reducible repeat (first | apply Kd.R_alloc | apply Kd.R_drewN | apply Kd.R_drew)); exact HO820.out))) (below_size (by repeat (first | (with_reducible first | exact HB.out | apply below_alloc | apply pw_below_drewN | apply below_drew1) | exact HB.out))))
              have n1_ := Aside0.mk (blk_below (g := wr.heap.size) (o := .cells #[.int .i64 z.f0, .string z.f1, .int .i64 z.f2, .slice A5 z.f3.length c5] 36 (0, 0)) (by (with_reducible repeat (first | refine blk_drewN ?_ _ | refine blk_drew ?_ | refine blk_alloc ?_ _)); exact BK.out) hb)
              have n2_ := Aside0.mk (below_step (by repeat (first | (with_reducible first | exact HB.out | apply below_alloc | apply pw_below_drewN | apply below_drew1) | exact HB.out)) hb)
              clear BK HB HO820
              have HO820 := m0_
              clear m0_
              have HO823 := n0_
              have BK := n1_
              have HB := n2_
              clear n0_ n1_ n2_
              clear hb ho8
              refine hK.out _ _ ⟨(blk_cell BK.out 0).trans rfl, (blk_cell BK.out 1).trans rfl, (blk_cell BK.out 2).trans rfl, (blk_cell BK.out 3).trans rfl⟩ (fun hHeld => ?_)
              clear hK K
              refine norm_ (a' := ?_) ?_ ?_
              rotate_left
              · show Act.put _ (some 47) _ = _
                simp only [Act.put, List.setIfInBounds_toArray, List.set_cons_zero, List.set_cons_succ, i64_w, i32_w]
                rfl
              exact norm_ (by simp only [putAll, Act.put, List.setIfInBounds_toArray, List.set_cons_zero, List.set_cons_succ]) (hCont (v819, v822) _ ⟨hHeld, (by (with_reducible repeat (first | apply Kd.R_alloc | apply Kd.R_drewN | apply Kd.R_drew)); exact Kd.R_mono HO820.out (fun _ hk => hk.2)), (by (with_reducible repeat (first | apply Kd.R_alloc | apply Kd.R_drewN | apply Kd.R_drew)); exact Kd.R_mono HO823.out (fun _ hk => hk.2)), (by (with_reducible repeat (first | refine blk_drewN ?_ _ | refine blk_drew ?_ | refine blk_alloc ?_ _)); exact BK.out), (by repeat (first | (with_reducible first | exact HB.out | apply below_alloc | apply pw_below_drewN | apply below_drew1) | exact HB.out))⟩)
            · skip
              refine Kd.R_lit_step (Kd.int .i64) _ 3 ?hg (N := 47) ?hd (xs := ([(i : Int), (s : Int)] : List Int)) (inner := [.int .i64 i, .int .i64 s]) (ok := fun _ => True) (okp := fun _ => True) ?hr ?hp (fun _ hk => hk) trivial (Below.refl _ _) (Nat.le_refl _) (by simp) ?_; (case hd => rfl); (case hg => rfl); (case hr => first | (go_simp; done) | (go_simp; rfl)); (case hp => exact (Reps.one (show Kd.M (Kd.int .i64) _ _ _ (i : Int) [.int .i64 i] from rfl) (Reps.one (show Kd.M (Kd.int .i64) _ _ _ (s : Int) [.int .i64 s] from rfl) (Reps.none _ _))))
              intro v822 w6 ho8 hb hg_ hnew_
              clear hg_ hnew_
              rw [← HQ.out] at ho8
              have n0_ := Aside0.mk (Kd.R_lower ho8 (below_size (by repeat (first | (with_reducible first | exact HB.out | apply below_alloc | apply pw_below_drewN | apply below_drew1) | exact HB.out))))
              have n1_ := Aside0.mk (blk_below (g := wr.heap.size) (o := .cells #[.int .i64 z.f0, .string z.f1, .int .i64 z.f2, .slice A5 z.f3.length c5] 36 (0, 0)) (by (with_reducible repeat (first | refine blk_drewN ?_ _ | refine blk_drew ?_ | refine blk_alloc ?_ _)); exact BK.out) hb)
              have n2_ := Aside0.mk (below_step (by repeat (first | (with_reducible first | exact HB.out | apply below_alloc | apply pw_below_drewN | apply below_drew1) | exact HB.out)) hb)
              clear BK HB
              have HO823 := n0_
              have BK := n1_
              have HB := n2_
              clear n0_ n1_ n2_
              clear hb ho8
              refine hK.out _ _ ⟨(blk_cell BK.out 0).trans rfl, (blk_cell BK.out 1).trans rfl, (blk_cell BK.out 2).trans rfl, (blk_cell BK.out 3).trans rfl⟩ (fun hHeld => ?_)
              clear hK K
              refine norm_ (a' := ?_) ?_ ?_
              rotate_left
              · show Act.put _ (some 47) _ = _
                simp only [Act.put, List.setIfInBounds_toArray, List.set_cons_zero, List.set_cons_succ, i64_w, i32_w]
                rfl
              refine one_ (i := 2) (N := some 44) #[true, true, true, true, true, true, false, true, false, false] rfl rfl (one_of HT_.out (by kernel_rfl)) (by decide) (fun K hK => ?_)
              refine goes_ Tryd.func81 (by kernel_rfl) rfl #[.slice A1 path.length c1] (by rfl) rfl rfl (by (try simp only [List.map_toArray, List.map_cons, List.map_nil]); first | done | rfl) ?_
              with_reducible refine (slices_Clone_int_int.calls _ _ path path _ ?side1 ?side2 (by simp [slices_Clone_int_int.f, hlp])).mono ?_
              (case side1 => repeat (first | exact (Kd.C_below HCb.out HB.out) | (with_reducible refine Kd.C_alloc ?_ _) | (with_reducible refine Kd.C_drewN ?_ _) | (with_reducible refine Kd.C_drew ?_)))
              (case side2 => exact HC1.out)
              rintro e w7 ⟨v819, rfl, ho0, hb⟩
              refine ⟨_, rfl, ?_⟩
              have m0_ := Aside0.mk (Kd.R_elder' (by (with_reducible repeat (first | apply Kd.R_alloc | apply Kd.R_drewN | apply Kd.R_drew)); exact HO823.out) (Kd.R_base ho0) hb)
              have n0_ := Aside0.mk (Kd.R_lower (Kd.R_new' ho0 (Kd.R_lt (by (with_reducible repeat (first | apply Kd.R_alloc | apply Kd.R_drewN | apply Kd.R_drew)); exact HO823.out))) (below_size (by repeat (first | (with_reducible first | exact HB.out | apply below_alloc | apply pw_below_drewN | apply below_drew1) | exact HB.out))))
              have n1_ := Aside0.mk (blk_below (g := wr.heap.size) (o := .cells #[.int .i64 z.f0, .string z.f1, .int .i64 z.f2, .slice A5 z.f3.length c5] 36 (0, 0)) (by (with_reducible repeat (first | refine blk_drewN ?_ _ | refine blk_drew ?_ | refine blk_alloc ?_ _)); exact BK.out) hb)
              have n2_ := Aside0.mk (below_step (by repeat (first | (with_reducible first | exact HB.out | apply below_alloc | apply pw_below_drewN | apply below_drew1) | exact HB.out)) hb)
              clear BK HB HO823
              have HO823 := m0_
              clear m0_
              have HO820 := n0_
              have BK := n1_
              have HB := n2_
              clear n0_ n1_ n2_
              clear hb ho0
              refine hK.out _ _ ⟨(blk_cell BK.out 0).trans rfl, (blk_cell BK.out 1).trans rfl, (blk_cell BK.out 2).trans rfl, (blk_cell BK.out 3).trans rfl⟩ (fun hHeld => ?_)
              clear hK K
              refine norm_ (a' := ?_) ?_ ?_
              rotate_left
              · show Act.put _ (some 44) _ = _
                simp only [Act.put, List.setIfInBounds_toArray, List.set_cons_zero, List.set_cons_succ, i64_w, i32_w]
                rfl
              exact norm_ (by simp only [putAll, Act.put, List.setIfInBounds_toArray, List.set_cons_zero, List.set_cons_succ]) (hCont (v819, v822) _ ⟨hHeld, (by (with_reducible repeat (first | apply Kd.R_alloc | apply Kd.R_drewN | apply Kd.R_drew)); exact Kd.R_mono HO820.out (fun _ hk => hk.2)), (by (with_reducible repeat (first | apply Kd.R_alloc | apply Kd.R_drewN | apply Kd.R_drew)); exact Kd.R_mono HO823.out (fun _ hk => hk.2)), (by (with_reducible repeat (first | refine blk_drewN ?_ _ | refine blk_drew ?_ | refine blk_alloc ?_ _)); exact BK.out), (by repeat (first | (with_reducible first | exact HB.out | apply below_alloc | apply pw_below_drewN | apply below_drew1) | exact HB.out))⟩)
          rintro ⟨v819, v822⟩ w9 ⟨hHeld, h0_, h1_, h2_, h3_⟩
          clear BK HB
          have HO820 : Aside0 (Kd.R (Kd.int .i64) 3 w9 wb.heap.size (fun k_ => some k_ ≠ (v822 : Value).ownBlock) v819 path) := ⟨h0_⟩
          have HO823 : Aside0 (Kd.R (Kd.int .i64) 3 w9 wb.heap.size (fun k_ => some k_ ≠ (v819 : Value).ownBlock) v822 q2) := ⟨h1_⟩
          have BK : Aside0 (w9.heap[wr.heap.size]? = some (.cells #[.int .i64 z.f0, .string z.f1, .int .i64 z.f2, .slice A5 z.f3.length c5] 36 (0, 0))) := ⟨h2_⟩
          have HB : Aside0 (Below wb.heap.size wb w9) := ⟨h3_⟩
          clear h0_ h1_ h2_ h3_
          obtain ⟨Ao11, co11, eo11⟩ := Kd.R_slice HO823.out
          (first | subst eo11 | (injection eo11 with f1_ f2_ f3_; have f4_ := f1_.symm; have f5_ := f3_.symm; clear f1_ f2_ f3_; subst f4_; subst f5_))
          refine norm_ (a' := ?_) ?_ ?_
          rotate_left
          · simp only [putAll, Act.put, List.setIfInBounds_toArray, List.set_cons_zero, List.set_cons_succ]
            rfl
          refine one_ (i := 6) (N := some 48) #[true, true, true, true, true, true, true, true, false, false] rfl rfl (one_of HT_.out (by kernel_rfl)) (by decide) (fun K hK => ?_)
          refine Kd.R_append_rows_step (Kd.int .i64) (w0 := wb) wb.heap.size (by rfl) (.tmp 44) (.tmp 47) 26 3 (.int .i64 0) 8 rfl Tryd.underlying26 info3 rfl (by decide) (by omega) v819 path q2 _ _ _ (fun k_ => some k_ ≠ (.slice Ao11 q2.length co11 : Value).ownBlock) (fun _ => False) rfl rfl ?aO ?aR (fun _ _ h => h) (fun _ h => h.elim) ?aF ?aB ?aS ?aL ?_
          (case aR => exact (Kd.R_reads' HO823.out).2.2)
          (case aB => exact HB.out)
          (case aF => exact (fun k_ hk => Kd.fresh' (Kd.R_lt HO823.out) k_ hk))
          (case aO => exact HO820.out)
          (case aS => exact below_size HB.out)
          (case aL => have h1 := HPL.out; rw [HQ.out]; simp; omega)
          intro v825 w10 ho hb hg hat
          have n0_ := Aside0.mk (blk_grown (g := wr.heap.size) (o := .cells #[.int .i64 z.f0, .string z.f1, .int .i64 z.f2, .slice A5 z.f3.length c5] 36 (0, 0)) BK.out hg (Kd.R_ne HO820.out BK.out (by decide)))
          clear BK HO823 HO820 HB
          have BK := n0_
          clear n0_ hg hat
          have HB := Aside0.mk hb
          have HB0 := Aside0.mk hb
          have HO826 := Aside0.mk (Kd.R_lower (Kd.R_mono (ok' := fun _ => True) ho (fun _ _ => trivial)) (below_size (below_step (Y.below HJb.out) (Below.refl _ _))))
          clear ho hb
          refine hK.out _ _ ⟨(blk_cell BK.out 0).trans rfl, (blk_cell BK.out 1).trans rfl, (blk_cell BK.out 2).trans rfl, (blk_cell BK.out 3).trans rfl⟩ (fun hHeld => ?_)
          clear hK K
          refine norm_ (a' := ?_) ?_ ?_
          rotate_left
          · show Act.put _ (some 48) _ = _
            simp only [Act.put, List.setIfInBounds_toArray, List.set_cons_zero, List.set_cons_succ, i64_w, i32_w]
            rfl
          refine one_ (i := 8) (N := some 50) #[true, true, true, true, true, true, true, true, true, false] rfl rfl (one_of HT_.out (by kernel_rfl)) (by decide) (fun K hK => ?_)
          refine goes_ Tryd.func103 (by kernel_rfl) rfl #[.agg #[.int .i64 z.f0, .string z.f1, .int .i64 z.f2, .slice A5 z.f3.length c5], v825, .func (.yield l) #[] #[]] (by rfl) rfl rfl (by (try simp only [List.map_toArray, List.map_cons, List.map_nil]); first | done | rfl) ?_
          have hlen2 : (pre ++ dn ++ [path ++ [(i : Int)]] ++ d2).length + (posKids (path ++ q2) 0 z.f3).length ≤ N := by
            have h1 := congrArg List.length HE.out
            have h2 := congrArg List.length HD.out
            have h3 := HN.out
            rw [HY.out, posKids] at h1
            rw [HZ.out, posSlots, posSlot_eq] at h2
            rw [HQ.out]
            simp only [List.length_append, List.length_cons, List.length_nil] at h1 h2 ⊢
            omega
          have hpl2 : (path ++ q2).length + 2 * cntL z.f3 ≤ 1000000 := by
            have h1 := HPL.out
            rw [HQ.out]
            simp only [List.length_append, List.length_cons, List.length_nil] at h1 ⊢
            omega
          refine (ih (cntL z.f3) HLT.out z.f3 (Nat.le_refl _) z.f0 z.f1 z.f2 A5 c5 v825 (path ++ q2) (pre ++ dn ++ [path ++ [(i : Int)]] ++ d2) w10 HR5.out HC5.out HO826.out (Y.step HJb.out HB0.out) hlen2 hpl2).mono ?_
          rintro e w11 ⟨rfl, hj, hkk⟩
          refine ⟨_, rfl, ?_⟩
          have n0_ := Aside0.mk (hkk.2 _ _ _ _ BK.out (.inr rfl))
          have HK11 := Aside0.mk ((Keep.below (A := wr) HBb.out).trans ((Keep.below HB0.out).trans hkk))
          have HJ11 := Aside0.mk hj
          clear BK HB HB0 HO826 hlen2 hpl2 hj hkk
          have BK := n0_
          clear n0_
          refine hK.out _ _ ⟨(blk_cell BK.out 0).trans rfl, (blk_cell BK.out 1).trans rfl, (blk_cell BK.out 2).trans rfl, (blk_cell BK.out 3).trans rfl⟩ (fun hHeld => ?_)
          clear hK K
          refine norm_ (a' := ?_) ?_ ?_
          rotate_left
          · show Act.put _ (some 50) _ = _
            simp only [Act.put, List.setIfInBounds_toArray, List.set_cons_zero, List.set_cons_succ, i64_w, i32_w]
            rfl
          refine pure_ (i := 9) (N := some 51) (v := ?_) (a' := ?_) #[true, true, true, true, true, true, true, true, true, true] rfl rfl (any_of HT_.out (by kernel_rfl)) (fun _ _ _ h => h) (Or.inl ⟨by rfl, ?_⟩) ?_ ?_
          rotate_left
          · intro w'
            go_simp
            with_reducible rfl
          rotate_left
          · simp only [Act.put, List.setIfInBounds_toArray, List.set_cons_zero, List.set_cons_succ, i64_w, i32_w]
            rfl
          refine done_ (done_of HT_.out (by kernel_rfl)) ?_
          have HX11 := Aside0.mk (HK11.out.2 _ _ _ _ HXs.out (.inr rfl))
          have HP11 := Aside0.mk (Keep.R HK11.out HPs.out)
          gi_wp2
          refine ⟨⟨s + 1, d2 ++ posKids (path ++ q2) 0 z.f3, by push_cast; rfl, ⟨by omega⟩, ⟨?_⟩, ⟨by simpa using HJ11.out⟩, ⟨HKs.out.trans HK11.out⟩, HX11, HP11⟩, ?_⟩
          · have h2 := HD.out
            rw [HZ.out, posSlots, posSlot_eq, ← HQ.out] at h2
            rw [← h2]
            push_cast
            simp
          · simp [intOf]
            omega
end poa
end Go.Proofs.YtagkhoeidjlahaaDoor.G
namespace Go.Proofs.YtagkhoeidjlahaaDoor.G
open Go.RowKit Go.Proofs.YtagkhoeidjlahaaDoorW.PrintWords Go.Proofs.YtagkhoeidjlahaaDoorW.PrintLast Go.Proofs.YtagkhoeidjlahaaDoorW.PrintMore
attribute [local go_sem] max2_int min2_int max_two min_two max_three min_three max_four min_four
set_option linter.unusedVariables false
set_option linter.unusedSimpArgs false
section poc
mutual
theorem posKids_len : ∀ (p : List Int) (i : Int) (l : List S36), (posKids p i l).length ≤ 1 + 2 * cntL l
  | p, i, [] => by simp [posKids]
  | p, i, x :: l => by
    have h1 := posItem_len p i x
    have h2 := posKids_len p (i + 1) l
    rw [posKids, cntL]
    simp only [List.length_cons, List.length_append]
    have : 1 ≤ cnt x := by cases x; simp [cnt]
    omega
theorem posItem_len : ∀ (p : List Int) (i : Int) (x : S36), (posItem p i x).length + 2 ≤ 2 * cnt x
  | p, i, ⟨_, _, _, l⟩ => by
    have h1 := posSlots_len p i 0 l
    rw [posItem, cnt]
    omega
theorem posSlots_len : ∀ (p : List Int) (i s : Int) (l : List S36), (posSlots p i s l).length ≤ 2 * cntL l
  | p, i, s, [] => by simp [posSlots]
  | p, i, s, y :: l => by
    have h1 := posSlot_len (p ++ [i, s]) y
    have h2 := posSlots_len p i (s + 1) l
    rw [posSlots, cntL]
    simp only [List.length_append]
    omega
theorem posSlot_len : ∀ (p : List Int) (y : S36), (posSlot p y).length ≤ 2 * cnt y
  | p, ⟨_, _, _, l⟩ => by
    have h1 := posKids_len p 0 l
    rw [posSlot, cnt]
    omega
end
theorem chkL_cnt {f : Int → S36 → Option (Bool × Int)} (hf : ∀ l x l', f l x = some (true, l') → 0 ≤ l' ∧ (cnt x : Int) ≤ l - l') (row : Bool) : ∀ (xs : List S36) (l l' : Int), 0 ≤ l → chkL f row xs l = some (true, l') → 0 ≤ l' ∧ (cntL xs : Int) ≤ l - l' := by
  intro xs
  induction xs with
  | nil =>
    intro l l' h0 h
    simp [chkL] at h
    simp [cntL]
    omega
  | cons y ys ih =>
    intro l l' h0 h
    rw [chkL] at h
    split at h
    · simp at h
    · obtain ⟨⟨b, l1⟩, h1, h2⟩ := Option.bind_eq_some_iff.mp h
      cases b with
      | false => simp at h2
      | true =>
        obtain ⟨h3, h4⟩ := hf _ _ _ h1
        obtain ⟨h5, h6⟩ := ih _ _ h3 (by simpa using h2)
        rw [cntL]
        push_cast
        omega
theorem chk_cnt (k : Nat) : ∀ (d : Nat) (l : Int) (x : S36) (l' : Int), chk k d l x = some (true, l') → 0 ≤ l' ∧ (cnt x : Int) ≤ l - l' := by
  intro d
  induction d with
  | zero => intro l x l' h; simp [chk] at h
  | succ d ih =>
    intro l x l' h
    rw [chk] at h
    split at h
    · simp at h
    · rename_i h0
      obtain ⟨b, h1, h2⟩ := Option.bind_eq_some_iff.mp h
      cases b with
      | false => simp at h2
      | true =>
        have h3 := chkL_cnt (fun l x l' => ih l x l') (x.f0 == 1) x.f3 (l - 1) l' (by omega) (by simpa using h2)
        rw [cnt_eq]
        push_cast
        omega
theorem positions_calls {a0 : Int} {a1 : ByteArray} {a2 : Int} {A : Option Addr} {c n : Nat} (W : World) :
    Calls Tryd.prog 74 #[.agg #[.int .i64 a0, .string a1, .int .i64 a2, .slice A n c]] W fun e W' => e = .returned (.func (.func 102) #[] #[.pointer (some ⟨W.heap.size, 0, none⟩)]) ∧ W' = W.alloc (.cells #[.int .i64 a0, .string a1, .int .i64 a2, .slice A n c] 36) := by
  have hu36 := Tryd.underlying36
  go_enter Tryd.func74, Tryd.ntmps74
  go_wp2
  go_ret
  exact ⟨rfl, rfl⟩
theorem collect_calls {f : Value} {W : World} {R : Value → World → Prop} (h : Calls Tryd.prog 101 #[.slice none 0 0, f] W fun e W' => ∃ v, e = .returned v ∧ R v W') :
    Calls Tryd.prog 73 #[f] W fun e W' => ∃ v, e = .returned v ∧ R v W' := by
  go_enter Tryd.func73, Tryd.ntmps73
  go_wp2_with fail
  refine h.mono ?_
  rintro e w2 ⟨v, rfl, hv⟩
  go_wp2
  go_ret
  exact ⟨_, rfl, hv⟩
end poc
end Go.Proofs.YtagkhoeidjlahaaDoor.G
namespace Go.Proofs.YtagkhoeidjlahaaDoor.G.Pure
open Go.Proofs.YtagkhoeidjlahaaDoorW.PrintWords Go.RowKit
set_option linter.unusedVariables false
set_option linter.unusedSimpArgs false
mutual
def formB : S36 → Bool
  | ⟨k, s, c, l⟩ => shp k s c l.length && formL (k == 1) l
def formL (row : Bool) : List S36 → Bool
  | [] => true
  | y :: l => !((y.f0 == 1) == row) && formB y && formL row l
end
mutual
def dep : S36 → Nat
  | ⟨_, _, _, l⟩ => 1 + depL l
def depL : List S36 → Nat
  | [] => 0
  | y :: l => max (dep y) (depL l)
end
theorem formB_eq (x : S36) : formB x = (shp x.f0 x.f1 x.f2 x.f3.length && formL (x.f0 == 1) x.f3) := by cases x; simp [formB]
theorem dep_eq (x : S36) : dep x = 1 + depL x.f3 := by cases x; simp [dep]
theorem rdT_at (l : List S36) (i : Nat) (h : i < l.length) : rd_T36 l i = l[i] := by simp [rd_T36, h]
theorem ok_open {x : S36} (h : OkNode x) : x.f1.size ≤ M ∧ x.f3.length ≤ M ∧ ∀ y ∈ x.f3, OkNode y := by
  cases h with
  | mk x h0 h1 h2 hl h3 => exact ⟨h1, hl, h3⟩
theorem cnt_pos (x : S36) : 1 ≤ cnt x := by rw [cnt_eq]; omega
theorem cntL_drop {l : List S36} {i : Nat} (h : i < l.length) : cntL (l.drop i) = cnt l[i] + cntL (l.drop (i + 1)) := by
  rw [List.drop_eq_getElem_cons h, cntL]
theorem form_ev : ∀ (n : Nat) (x : S36), cnt x ≤ n → OkNode x → Ev (fun k => vinculumref09_form.f k x.f0 x.f1 x.f2 x.f3) (formB x) := by
  intro n
  induction n with
  | zero => intro x h; have := cnt_pos x; omega
  | succ n ih =>
    intro x hn hx
    obtain ⟨h1, h2, h3⟩ := ok_open hx
    unfold M at h2
    rw [cnt_eq] at hn
    have loop : ∀ (m i : Nat), x.f3.length - i = m → cntL (x.f3.drop i) ≤ n → Ev (fun k => vinculumref09_form.l0 k i x.f0 x.f1 x.f2 x.f3) (formL (x.f0 == 1) (x.f3.drop i)) := by
      intro m
      induction m with
      | zero =>
        intro i hi _
        refine Ev.step (fun k => by rw [vinculumref09_form.l0]) ?_
        refine ev_if (fun h => by omega) fun _ => ev_now ?_
        rw [List.drop_eq_nil_of_le (by omega), formL]
      | succ m ihm =>
        intro i hi hc
        have hil : i < x.f3.length := by omega
        rw [cntL_drop hil] at hc
        refine Ev.step (fun k => by rw [vinculumref09_form.l0]) ?_
        refine ev_if (fun _ => ?_) fun h => by omega
        refine ev_if (fun _ => ?_) fun h => by omega
        rw [List.drop_eq_getElem_cons hil, formL, rdT_at _ _ hil]
        refine ev_if (fun h => ev_now ?_) fun h => ?_
        · rw [h]; rfl
        · rw [Bool.not_eq_true] at h
          rw [h]
          refine ev_bind (ih x.f3[i] (by omega) (h3 _ (List.getElem_mem hil))) ?_
          refine ev_if (fun h4 => ?_) fun h4 => ev_now ?_
          · rw [h4, wr (n := (i : Int) + 1) (by omega)]
            have := ihm (i + 1) (by omega) (by omega)
            simpa using this
          · rw [Bool.not_eq_true] at h4; rw [h4]; rfl
    refine Ev.step (fun k => by rw [vinculumref09_form.f]) ?_
    rw [formB_eq, ← shp_eq]
    have j0t : Ev (fun k => vinculumref09_form.j0 k true x.f0 x.f1 x.f2 x.f3) false := Ev.step (fun k => by rw [vinculumref09_form.j0]) (ev_if (fun _ => ev_now rfl) fun h => absurd rfl h)
    refine ev_bind (text_ev x.f0 x.f1 x.f2 x.f3 h1) ?_
    refine ev_if (fun h => ?_) fun h => ?_
    · rw [h, Bool.true_and]
      refine ev_bind (kids_ev x.f0 x.f1 x.f2 x.f3) ?_
      cases hk : kidsB x.f0 x.f2 x.f3.length with
      | false => simpa using j0t
      | true =>
        refine Ev.step (fun k => by rw [vinculumref09_form.j0]) ?_
        refine ev_if (fun h => by cases h) fun _ => ?_
        have := loop x.f3.length 0 rfl (by simp; omega)
        simpa using this
    · rw [Bool.not_eq_true] at h; rw [h]; simpa using j0t
theorem count_ev : ∀ (n : Nat) (x : S36), cnt x ≤ n → n ≤ 1000000 → OkNode x → Ev (fun k => vinculumref09_Count.f k x.f0 x.f1 x.f2 x.f3) (cnt x : Int) := by
  intro n
  induction n with
  | zero => intro x h; have := cnt_pos x; omega
  | succ n ih =>
    intro x hn hM hx
    obtain ⟨h1, h2, h3⟩ := ok_open hx
    unfold M at h2
    rw [cnt_eq] at hn
    have loop : ∀ (m i : Nat) (a : Nat), x.f3.length - i = m → cntL (x.f3.drop i) ≤ n → a + cntL (x.f3.drop i) ≤ 1000000 → Ev (fun k => vinculumref09_Count.l0 k a i x.f0 x.f1 x.f2 x.f3) ((a + cntL (x.f3.drop i) : Nat) : Int) := by
      intro m
      induction m with
      | zero =>
        intro i a hi _ _
        refine Ev.step (fun k => by rw [vinculumref09_Count.l0]) ?_
        refine ev_if (fun h => by omega) fun _ => ev_now ?_
        rw [List.drop_eq_nil_of_le (by omega), cntL]; rfl
      | succ m ihm =>
        intro i a hi hc ha
        have hil : i < x.f3.length := by omega
        rw [cntL_drop hil] at hc ha ⊢
        refine Ev.step (fun k => by rw [vinculumref09_Count.l0]) ?_
        refine ev_if (fun _ => ?_) fun h => by omega
        refine ev_if (fun _ => ?_) fun h => by omega
        rw [rdT_at _ _ hil]
        refine ev_bind (ih x.f3[i] (by omega) (by omega) (h3 _ (List.getElem_mem hil))) ?_
        rw [wr (n := (i : Int) + 1) (by omega), wr (n := (a : Int) + (cnt x.f3[i] : Int)) (by omega)]
        have := ihm (i + 1) (a + cnt x.f3[i]) (by omega) (by omega) (by omega)
        rw [← Nat.add_assoc]
        exact_mod_cast this
    refine Ev.step (fun k => by rw [vinculumref09_Count.f]) ?_
    have := loop x.f3.length 0 1 rfl (by simp; omega) (by simp; omega)
    rw [cnt_eq]
    simpa using this
theorem depth_ev : ∀ (n : Nat) (x : S36), cnt x ≤ n → n ≤ 1000000 → OkNode x → Ev (fun k => vinculumref09_Depth.f k x.f0 x.f1 x.f2 x.f3) (dep x : Int) ∧ dep x ≤ cnt x := by
  intro n
  induction n with
  | zero => intro x h; have := cnt_pos x; omega
  | succ n ih =>
    intro x hn hM hx
    obtain ⟨h1, h2, h3⟩ := ok_open hx
    unfold M at h2
    rw [cnt_eq] at hn
    have loop : ∀ (m i : Nat) (a : Nat), x.f3.length - i = m → cntL (x.f3.drop i) ≤ n → a ≤ 1000000 → Ev (fun k => vinculumref09_Depth.l0 k a i x.f0 x.f1 x.f2 x.f3) ((max a (depL (x.f3.drop i)) + 1 : Nat) : Int) ∧ depL (x.f3.drop i) ≤ cntL (x.f3.drop i) := by
      intro m
      induction m with
      | zero =>
        intro i a hi _ ha
        rw [List.drop_eq_nil_of_le (by omega)]
        refine ⟨Ev.step (fun k => by rw [vinculumref09_Depth.l0]) ?_, by simp [depL]⟩
        refine ev_if (fun h => by omega) fun _ => ev_now ?_
        rw [wr (n := (a : Int) + 1) (by omega), depL]
        simp
      | succ m ihm =>
        intro i a hi hc ha
        have hil : i < x.f3.length := by omega
        have hd := List.drop_eq_getElem_cons hil
        rw [cntL_drop hil] at hc
        obtain ⟨e1, e2⟩ := ih x.f3[i] (by omega) (by omega) (h3 _ (List.getElem_mem hil))
        obtain ⟨f1, f2⟩ := ihm (i + 1) (max a (dep x.f3[i])) (by omega) (by omega) (by omega)
        refine ⟨Ev.step (fun k => by rw [vinculumref09_Depth.l0]) ?_, ?_⟩
        · refine ev_if (fun _ => ?_) fun h => by omega
          refine ev_if (fun _ => ?_) fun h => by omega
          rw [rdT_at _ _ hil]
          refine ev_bind e1 ?_
          rw [wr (n := (i : Int) + 1) (by omega), hd, depL, ← Nat.max_assoc]
          have hm : mx (a : Int) (dep x.f3[i] : Int) = ((max a (dep x.f3[i]) : Nat) : Int) := by unfold mx; omega
          rw [hm]
          exact_mod_cast f1
        · rw [cntL_drop hil, hd, depL]; omega
    obtain ⟨l1, l2⟩ := loop x.f3.length 0 0 rfl (by simp; omega) (by omega)
    refine ⟨Ev.step (fun k => by rw [vinculumref09_Depth.f]) ?_, ?_⟩
    · rw [dep_eq, Nat.add_comm]
      simpa using l1
    · rw [dep_eq, cnt_eq]
      simp only [List.drop_zero] at l2
      omega
mutual
def lft : S36 → Int → Int
  | ⟨_, _, _, l⟩, m => lftL l (m - 1)
def lftL : List S36 → Int → Int
  | [], m => m
  | y :: l, m => if m ≥ 0 then lftL l (lft y m) else m
end
theorem lft_eq (x : S36) (m : Int) : lft x m = lftL x.f3 (m - 1) := by cases x; simp [lft]
theorem lft_spec : ∀ (n : Nat) (x : S36), cnt x ≤ n → ∀ m : Int, 0 ≤ m → ((cnt x : Int) ≤ m → lft x m = m - cnt x) ∧ (¬ (cnt x : Int) ≤ m → lft x m < 0) ∧ -1 ≤ lft x m ∧ lft x m ≤ m := by
  intro n
  induction n with
  | zero => intro x h; have := cnt_pos x; omega
  | succ n ih =>
    intro x hn m hm
    rw [cnt_eq] at hn ⊢
    have loop : ∀ (l : List S36) (q : Int), cntL l ≤ n → -1 ≤ q → (((cntL l : Int) ≤ q ∧ 0 ≤ q) → lftL l q = q - cntL l) ∧ (¬ ((cntL l : Int) ≤ q ∧ 0 ≤ q) → lftL l q < 0) ∧ -1 ≤ lftL l q ∧ lftL l q ≤ q := by
      intro l
      induction l with
      | nil => intro q _ hq; simp only [lftL, cntL]; refine ⟨fun h => by simp, fun h => by simp at h; omega, hq, by omega⟩
      | cons y l ihl =>
        intro q hc hq
        rw [cntL] at hc ⊢
        rw [lftL]
        by_cases h0 : q ≥ 0
        · rw [if_pos h0]
          obtain ⟨a1, a2, a3, a4⟩ := ih y (by omega) q h0
          obtain ⟨b1, b2, b3, b4⟩ := ihl (lft y q) (by omega) a3
          refine ⟨fun h => ?_, fun h => ?_, b3, by omega⟩
          · have e := a1 (by omega)
            rw [b1 ⟨by omega, by omega⟩, e]; push_cast; omega
          · by_cases hy : (cnt y : Int) ≤ q
            · have e := a1 hy
              refine b2 fun h2 => h ⟨?_, h0⟩
              push_cast
              omega
            · have := a2 hy; omega
        · rw [if_neg h0]
          refine ⟨fun h => by omega, fun h => by omega, hq, by omega⟩
    rw [lft_eq]
    obtain ⟨a1, a2, a3, a4⟩ := loop x.f3 (m - 1) (by omega) (by omega)
    refine ⟨fun h => ?_, fun h => ?_, a3, by omega⟩
    · rw [a1 ⟨by omega, by omega⟩]; push_cast; omega
    · exact a2 fun h2 => h (by push_cast; omega)
theorem left_ev : ∀ (n : Nat) (x : S36), cnt x ≤ n → OkNode x → ∀ m : Int, 0 ≤ m → m ≤ 1000000 → Ev (fun k => vinculumref09_left.f k x.f0 x.f1 x.f2 x.f3 m) (lft x m) := by
  intro n
  induction n with
  | zero => intro x h; have := cnt_pos x; omega
  | succ n ih =>
    intro x hn hx m hm0 hm
    obtain ⟨h1, h2, h3⟩ := ok_open hx
    unfold M at h2
    rw [cnt_eq] at hn
    have loop : ∀ (q i : Nat) (a : Int), x.f3.length - i = q → cntL (x.f3.drop i) ≤ n → -1 ≤ a → a ≤ 1000000 → Ev (fun k => vinculumref09_left.l0 k a i x.f0 x.f1 x.f2 x.f3) (lftL (x.f3.drop i) a) := by
      intro q
      induction q with
      | zero =>
        intro i a hi _ _ _
        refine Ev.step (fun k => by rw [vinculumref09_left.l0]) ?_
        refine ev_if (fun h => by omega) fun _ => ev_now ?_
        rw [List.drop_eq_nil_of_le (by omega), lftL]
      | succ q ihq =>
        intro i a hi hc ha ha2
        have hil : i < x.f3.length := by omega
        rw [cntL_drop hil] at hc
        refine Ev.step (fun k => by rw [vinculumref09_left.l0]) ?_
        refine ev_if (fun _ => ?_) fun h => by omega
        rw [List.drop_eq_getElem_cons hil, lftL]
        refine ev_if (fun h => ?_) fun h => ev_now ?_
        · refine ev_if (fun _ => ?_) fun h => by omega
          rw [if_pos h, rdT_at _ _ hil]
          refine ev_bind (ih x.f3[i] (by omega) (h3 _ (List.getElem_mem hil)) a h ha2) ?_
          rw [wr (n := (i : Int) + 1) (by omega)]
          obtain ⟨_, _, s3, s4⟩ := lft_spec n x.f3[i] (by omega) a h
          have := ihq (i + 1) (lft x.f3[i] a) (by omega) (by omega) s3 (by omega)
          exact_mod_cast this
        · rw [if_neg h]
    refine Ev.step (fun k => by rw [vinculumref09_left.f]) ?_
    rw [lft_eq, wr (n := m - 1) (by omega)]
    have := loop x.f3.length 0 (m - 1) rfl (by simp; omega) (by omega) (by omega)
    simpa using this
theorem few_ev (x : S36) (hx : OkNode x) (m : Int) (h0 : 0 ≤ m) (h1 : m ≤ 1000000) : Ev (fun k => vinculumref09_Few.f k x.f0 x.f1 x.f2 x.f3 m) (decide ((cnt x : Int) ≤ m)) := by
  unfold vinculumref09_Few.f
  refine ev_bind (left_ev (cnt x) x (Nat.le_refl _) hx m h0 h1) (ev_now ?_)
  obtain ⟨a1, a2, _, _⟩ := lft_spec (cnt x) x (Nat.le_refl _) m h0
  rw [decide_eq_decide]
  by_cases h : (cnt x : Int) ≤ m
  · rw [a1 h]; omega
  · have := a2 h; omega
def validB (x : S36) : Bool := x.f0 == 1 && formB x && decide (cnt x ≤ 1000) && decide (dep x ≤ 24)
theorem rValid_ev (x : S36) (hx : OkNode x) (hc : cnt x ≤ 1000000) : Ev (fun k => vinculumref09_Valid.f k x.f0 x.f1 x.f2 x.f3) (validB x) := by
  unfold vinculumref09_Valid.f validB
  refine ev_if (fun h => ?_) fun h => ev_now ?_
  · rw [h]
    refine ev_bind (by have := form_ev (cnt x) x (Nat.le_refl _) hx; rw [h] at this; exact this) ?_
    refine ev_if (fun h2 => ?_) fun h2 => ev_now ?_
    · rw [h2]
      refine ev_bind (by have := count_ev (cnt x) x (Nat.le_refl _) hc hx; rw [h] at this; exact this) ?_
      refine ev_if (fun h3 => ?_) fun h3 => ev_now ?_
      · rw [decide_eq_true (show cnt x ≤ 1000 by omega)]
        refine ev_bind (by have := (depth_ev (cnt x) x (Nat.le_refl _) hc hx).1; rw [h] at this; exact this) (ev_now ?_)
        have e : decide ((dep x : Int) ≤ 24) = decide (dep x ≤ 24) := by rw [decide_eq_decide]; omega
        rw [e]; simp
      · rw [decide_eq_false (show ¬ cnt x ≤ 1000 by omega)]; simp
    · rw [Bool.not_eq_true] at h2; rw [h2]; simp
  · rw [beq_eq_false_iff_ne.2 h]; rfl
theorem chk_ev : ∀ (d : Nat) (x : S36) (l : Int), OkNode x → 0 ≤ l → l ≤ 1000000 → ∃ r, Ev (fun k => chk k d l x) r ∧ (r.1 = true → formB x = true ∧ (cnt x : Int) ≤ l ∧ dep x ≤ d ∧ r.2 = l - cnt x) ∧ (formB x = true ∧ (cnt x : Int) ≤ l ∧ dep x ≤ d → r.1 = true) := by
  intro d
  induction d with
  | zero =>
    intro x l hx h0 h1
    refine ⟨(false, l - 1), Ev.now _, fun h => by simp at h, fun h => ?_⟩
    have := dep_eq x
    omega
  | succ d ih =>
    intro x l hx h0 h1
    obtain ⟨o1, o2, o3⟩ := ok_open hx
    have loop : ∀ (ys : List S36) (q : Int), (∀ y ∈ ys, OkNode y) → 0 ≤ q → q ≤ 1000000 → ∃ r, Ev (fun k => chkL (chk k d) (x.f0 == 1) ys q) r ∧ (r.1 = true → formL (x.f0 == 1) ys = true ∧ (cntL ys : Int) ≤ q ∧ depL ys ≤ d ∧ r.2 = q - cntL ys) ∧ (formL (x.f0 == 1) ys = true ∧ (cntL ys : Int) ≤ q ∧ depL ys ≤ d → r.1 = true) := by
      intro ys
      induction ys with
      | nil =>
        intro q _ hq hq1
        refine ⟨(true, q), ?_, fun _ => ⟨rfl, by simp [cntL]; omega, by simp [depL], by simp [cntL]⟩, fun _ => rfl⟩
        simp only [chkL]; exact Ev.now _
      | cons y ys ihy =>
        intro q hy hq hq1
        simp only [chkL, formL, cntL, depL]
        by_cases hr : (y.f0 == 1) == (x.f0 == 1)
        · refine ⟨(false, q), ?_, fun h => by simp at h, fun h => ?_⟩
          · simp only [hr, if_true]; exact Ev.now _
          · rw [hr] at h; simp at h
        · rw [Bool.not_eq_true] at hr
          simp only [hr, Bool.false_eq_true, if_false, Bool.not_false, Bool.true_and]
          obtain ⟨⟨b, q2⟩, e1, e2, e3⟩ := ih y q (hy y (by simp)) hq hq1
          cases b with
          | false =>
            refine ⟨(false, q2), ev_bind e1 (Ev.now _), fun h => by simp at h, fun h => ?_⟩
            obtain ⟨g1, g2, g3⟩ := h
            rw [Bool.and_eq_true] at g1
            have := e3 ⟨g1.1, by push_cast at g2; omega, by omega⟩
            simp at this
          | true =>
            obtain ⟨f1, f2, f3, f4⟩ := e2 rfl
            simp only at f4
            have := cnt_pos y
            obtain ⟨r, g1, g2, g3⟩ := ihy q2 (fun z hz => hy z (by simp [hz])) (by omega) (by omega)
            refine ⟨r, ev_bind e1 g1, fun h => ?_, fun h => ?_⟩
            · obtain ⟨i1, i2, i3, i4⟩ := g2 h
              refine ⟨by rw [f1, i1]; rfl, by push_cast; omega, by omega, by push_cast; omega⟩
            · obtain ⟨i1, i2, i3⟩ := h
              rw [Bool.and_eq_true] at i1
              exact g3 ⟨i1.2, by push_cast at i2; omega, by omega⟩
    have hcp := cnt_pos x
    simp only [chk]
    by_cases hl : l - 1 < 0
    · refine ⟨(false, l - 1), by simp only [hl, if_true]; exact Ev.now _, fun h => by simp at h, fun h => by omega⟩
    · simp only [hl, if_false]
      rw [formB_eq, cnt_eq, dep_eq]
      have hs := shape_ev x.f0 x.f1 x.f2 x.f3.length o1
      cases hsh : shp x.f0 x.f1 x.f2 x.f3.length with
      | false =>
        rw [hsh] at hs
        refine ⟨(false, l - 1), ev_bind hs (Ev.now _), fun h => by simp at h, fun h => by simp at h⟩
      | true =>
        rw [hsh] at hs
        obtain ⟨r, g1, g2, g3⟩ := loop x.f3 (l - 1) o3 (by omega) (by omega)
        refine ⟨r, ev_bind hs g1, fun h => ?_, fun h => ?_⟩
        · obtain ⟨i1, i2, i3, i4⟩ := g2 h
          refine ⟨by rw [i1]; rfl, by push_cast; omega, by omega, by push_cast; omega⟩
        · obtain ⟨i1, i2, i3⟩ := h
          rw [Bool.true_and] at i1
          exact g3 ⟨i1, by push_cast at i2; omega, by omega⟩
theorem node_eta (x : S36) : (⟨x.f0, x.f1, x.f2, x.f3⟩ : S36) = x := by cases x; rfl
theorem nValid_ev (x : S36) (hx : OkNode x) : Ev (fun k => node_Valid.f k x.f0 x.f1 x.f2 x.f3) (validB x) := by
  unfold node_Valid.f validB
  simp only [node_eta]
  refine ev_if (fun h => ?_) fun h => ev_now ?_
  · obtain ⟨r, e1, e2, e3⟩ := chk_ev 24 x 1000 hx (by omega) (by omega)
    refine ev_bind (f := fun _ r => some r.1) e1 (ev_now ?_)
    rw [h]
    rw [Bool.eq_iff_iff]
    simp only [beq_self_eq_true, Bool.true_and, Bool.and_eq_true, decide_eq_true_eq]
    constructor
    · intro hr; obtain ⟨i1, i2, i3, _⟩ := e2 hr; exact ⟨⟨i1, by omega⟩, i3⟩
    · rintro ⟨⟨i1, i2⟩, i3⟩; exact e3 ⟨i1, by omega, i3⟩
  · rw [beq_eq_false_iff_ne.2 h]; rfl
end Go.Proofs.YtagkhoeidjlahaaDoor.G.Pure
namespace Go.Proofs.YtagkhoeidjlahaaDoor.G
open Go.RowKit Go.Proofs.YtagkhoeidjlahaaDoorW.PrintWords Go.Proofs.YtagkhoeidjlahaaDoorW.PrintLast Go.Proofs.YtagkhoeidjlahaaDoorW.PrintMore
attribute [local go_sem] max2_int min2_int max_two min_two max_three min_three max_four min_four
set_option linter.unusedVariables false
set_option linter.unusedSimpArgs false
section pob
open Go.Shelf
attribute [local go_sem] Oper.semAt_some
set_option maxHeartbeats 4000000 in
set_option maxRecDepth 100000 in
theorem seq_calls {l N : Nat} {w0 : World} {J : List (List Int) → World → Prop} (Y : Yl l N w0 J) (hN : N ≤ 1000000) (kids : List S36) (hcnt : cntL kids ≤ 1000) (k0 : Int) (s0 : ByteArray) (c0 : Int) (A : Option Addr) (c g : Nat) (W : World)
    (hC : Kd.C k36 w0 A kids.length kids) (hc : kids.length ≤ c) (hbox : W.heap[g]? = some (.cells #[.int .i64 k0, .string s0, .int .i64 c0, .slice A kids.length c] 36 (0, 0))) (hJ : J [] W) (hNl : (posKids [] 0 kids).length ≤ N) :
    CallsIn Fence.wide 3 Tryd.prog 102 #[.func (.yield l) #[] #[], .pointer (some ⟨g, 0, none⟩)] W fun e W' => (∃ v, e = .returned v) ∧ J (posKids [] 0 kids) W' := by
  have hu36 := Tryd.underlying36
  have hm := hC.2.1
  have q0 := (blk_cell hbox 0).trans rfl
  have q1 := (blk_cell hbox 1).trans rfl
  have q2 := (blk_cell hbox 2).trans rfl
  have q3 := (blk_cell hbox 3).trans rfl
  have HR := Aside0.mk hC
  have HC := Aside0.mk hc
  have HJ := Aside0.mk hJ
  have HN := Aside0.mk hNl
  clear hbox hC hc hJ hNl
  refine callsIn_of_wp Tryd.func102 rfl trivial ?_ rfl
  simp only [Tryd.ntmps102, List.size_toArray, List.length_cons, List.length_nil, Nat.reduceAdd, Nat.reduceSub, Array.replicate_succ, Array.replicate_zero, List.push_toArray, List.append_toArray, List.nil_append, List.cons_append]
  gi_wp2_with (first | ((refine ⟨trivial, ?_⟩); gi_at_call 103; refine (callsIn_wide.2 (walk_calls Y hN 1000 kids hcnt k0 s0 c0 A c (.slice none 0 0) [] [] W HR.out HC.out (Kd.R_nil _ _ _ _ _) HJ.out (by simpa using HN.out) (by simp))).mono ?_; rintro e w2 ⟨rfl, hj, hk⟩; have HJ2 := Aside0.mk hj; clear hj hk))
  go_end0
  exact ⟨⟨_, rfl⟩, by simpa using HJ2.out⟩
structure Rng (w0 w : World) (N : Nat) (I : List (List Int) → World → Prop) : Prop where
  below : ∀ {pre : List (List Int)} {W : World}, I pre W → Below w0.heap.size w0 W
  step : ∀ {pre : List (List Int)} {W W' : World}, I pre W → Below W.heap.size W W' → I pre W'
  put : ∀ {pre : List (List Int)} {W : World} {l : Nat} {r r' : Loop}, l = w.heap.size + 1 → I pre W → W.heap[l]? = some (.loop r) → I pre (W.putObj l (.loop r'))
def Keep2 (W W' : World) : Prop := Keep W W' ∧ ∀ (k : Nat) (o : Obj), W.heap[k]? = some o → o.isCells = false → W'.heap[k]? = some o
theorem keep_putLoop {W : World} {l : Nat} {r r' : Loop} (h : W.heap[l]? = some (.loop r)) : Keep W (W.putObj l (.loop r')) := by
  refine ⟨by simp [World.putObj], fun k cells t fr hc ht => ?_⟩
  by_cases hk : l = k
  · subst hk; rw [h] at hc; simp at hc
  · rw [World.putObj_heap_other (Ne.symm hk)]; exact hc
theorem wpIn_rangeFunc_rows {n : Nat} {P : Program} {g : Operand} {p : Tmp} {assign body : Code} {Q : Exit → Act → World → Prop} {a : Act} {w w0 : World} {f : FuncId} {lb : Array Value} {N : Nat} {I : List (List Int) → World → Prop} {all : List (List Int)}
    (hg : a.eval g = .func (.func f) #[] lb) (eg : ∀ args w, (callFunc f args).run P w = .ok (.enter f args) w) (R : Rng w0 w N I) (h0 : I [] w) (a₁ : Value → Act)
    (hprog : P = Tryd.prog)
    (hassign : ∀ (l m : Nat) (v : Value) (W : World) (K : Act → World → Prop), K (a₁ v) W → assign.wpIn (Fence.wide.inRound l) m P (Exit.then K (fun _ _ _ => False)) { tmps := a.tmps.setIfInBounds p v, defers := [] } W)
    (hbody : ∀ (l m : Nat) (pre : List (List Int)) (xs : List Int) (v : Value) (W : World), l = w.heap.size + 1 → (∃ r, W.heap[l]? = some (.loop r)) → W.heap[w.heap.size]? = some (.deferred (some [])) → I pre W → pre.length < N → Kd.R (Kd.int .i64) 3 W w0.heap.size (fun _ => True) v xs → body.wpIn (Fence.wide.inRound l) m P (fun e _ W' => e = .normal ∧ I (pre ++ [xs]) W' ∧ Keep2 W W') (a₁ v) W)
    (hseq : ∀ (l : Nat) (J : List (List Int) → World → Prop) (W : World), Yl l N w0 J → Below w.heap.size w W → J [] W → CallsIn Fence.wide (n - 1) P f (#[.func (.yield l) #[] #[]] ++ lb) W fun e W' => (∃ v, e = .returned v) ∧ J all W')
    (hdone : ∀ (D : Nat) (W : World), D = w.heap.size → I all W → W.heap[D]? = some (.deferred (some [])) → Q .normal { a with defers := { target := .collected D, args := #[] } :: a.defers } W) :
    (Code.rangeFunc g #[p] assign body).wpIn Fence.wide n P Q a w := by
  refine wpIn_rangeFunc ?_
  intro fn hfn
  obtain ⟨rec, hrec⟩ : ∃ rec : LoopState → Option Code → Loop, rec = fun st pe => { state := st, pending := pe, fn, tmps := a.tmps, params := #[p], assign, body, defers := w.heap.size } := ⟨_, rfl⟩
  obtain ⟨W1, hW1⟩ : ∃ W1, (w.alloc (.deferred (some []))).alloc (.loop (rec .ready none)) = W1 := ⟨_, rfl⟩
  have hL1 : W1.heap[w.heap.size + 1]? = some (.loop (rec .ready none)) := by
    rw [← hW1]; have := World.alloc_heap_new (w.alloc (.deferred (some []))) (.loop (rec .ready none)); rwa [World.size_alloc] at this
  have hK1 : W1.heap[w.heap.size]? = some (.deferred (some [])) := by
    rw [← hW1]; exact (Below.heap_alloc _ _ _ (by simp)).trans (World.alloc_heap_new w _)
  have hb1 : Below w.heap.size w W1 := by
    rw [← hW1]; exact (((Below.refl _ w).alloc (Nat.le_refl _) _).alloc (by simp) _)
  have hI1 : I [] W1 := R.step h0 hb1
  refine ⟨w.heap.size + 1, [{ target := .collected w.heap.size, args := #[] }], W1, { target := .fn (.func f) lb, args := #[.func (.yield (w.heap.size + 1)) #[] #[]] }, W1, f,
    #[.func (.yield (w.heap.size + 1)) #[] #[]] ++ lb, W1, ?_, ?_, ?_, ?_, ?_, ?_⟩
  · rw [← hW1, hrec]; exact run_enterLoop_outer _ _ _ _ _
  · simp only [resolve, hg]
    simp [go_sem]
  · intro f' hf'; trivial
  · simp [invoke, go_sem, eg]
  · intro h; simp [Fence.wide] at h
  · refine (hseq (w.heap.size + 1) (fun pre W => I pre W ∧ W.heap[w.heap.size + 1]? = some (.loop (rec .ready none)) ∧ W.heap[w.heap.size]? = some (.deferred (some []))) W1 ?_ hb1 ⟨hI1, hL1, hK1⟩).mono ?_
    · refine ⟨fun h => R.below h.1, fun h hb => ⟨R.step h.1 hb, (hb.block _ (Array.getElem?_eq_some_iff.1 h.2.1).1).trans h.2.1, (hb.block _ (Array.getElem?_eq_some_iff.1 h.2.2).1).trans h.2.2⟩, ?_⟩
      rintro m pre xs v W ⟨hi, hl, hk⟩ hlen hR
      have hlt : w.heap.size + 1 < W.heap.size := (Array.getElem?_eq_some_iff.1 hl).1
      have hy : (Instr.yield (w.heap.size + 1) #[v]).run Tryd.prog W = .ok (.round (w.heap.size + 1) fn (a.tmps.setIfInBounds p v) assign body) W := by
        have := run_yield (P := Tryd.prog) (args := #[v]) hl (by rw [hrec]; rfl)
        simpa [hrec] using this
      refine ⟨fn, _, assign, body, hy, roundIn_of_wpIn hfn ?_⟩
      rw [hprog] at hassign hbody
      refine hassign _ m v W _ ?_
      clear hy
      refine ⟨_, run_beginRound hl (by rw [hrec]), ?_⟩
      have hl2 : (W.putObj (w.heap.size + 1) (.loop { rec .ready none with state := .busy })).heap[w.heap.size + 1]? = some (.loop { rec .ready none with state := .busy }) := World.putObj_heap_same hlt
      have hk2 : (W.putObj (w.heap.size + 1) (.loop { rec .ready none with state := .busy })).heap[w.heap.size]? = some (.deferred (some [])) := (World.putObj_heap_other (by omega)).trans hk
      have hp := keep_putLoop (r' := { rec .ready none with state := .busy }) hl
      refine wpIn_mono (hbody _ m pre xs v _ rfl ⟨_, hl2⟩ hk2 (R.put rfl hi hl) hlen (Keep.R hp hR)) ?_
      rintro e a3 W3 ⟨rfl, hi3, hk3⟩
      have hl3 := hk3.2 _ _ hl2 rfl
      have hd3 := hk3.2 _ _ hk2 rfl
      have hr := run_endRound (P := Tryd.prog) none hl3
      refine ⟨_, _, hr, rfl, ⟨R.put rfl hi3 hl3, ?_, (World.putObj_heap_other (by omega)).trans hd3⟩, hp.trans (hk3.1.trans (keep_putLoop hl3))⟩
      have := World.putObj_heap_same (o := .loop (rec .ready none)) (Array.getElem?_eq_some_iff.1 hl3).1
      simpa [hrec] using this
    · rintro e W2 ⟨⟨v, rfl⟩, hi, hl, hk⟩
      refine ⟨none, _, by have := run_endLoop (P := P) hl (by rw [hrec]; simp); rw [hrec] at this; exact this, ?_⟩
      exact hdone _ _ rfl (R.put rfl hi hl) ((World.putObj_heap_other (by omega)).trans hk)
theorem N_appendIn {α : Type} {F : Fence} {n : Nat} {P : Program} {ops : Array Oper} {rest : List Oper} {o : Oper} {a : Act} {Q : Exit → Act → World → Prop} (d : Kd α) {w0 W : World} (base : Nat) (hgd : o.guard = none) (s x : Operand) (t e : TypeId) (z : Value) (bytes : Nat)
    (ho : o.op = .call { callee := .builtin .append, args := #[s, x], argTypes := #[t, t] })
    (ht : P.underlying t = some (.slice e)) (hinfo : (P.info? e).map (fun i => (i.zero, i.size, i.bytes)) = some (some z, d.sz, bytes)) (hz : z.cells.size = d.sz) (hs0 : 0 < d.sz) (hb0 : 0 < bytes)
    (v : Value) (xs : List α) (p : α) (cs : List Value) (ok okp : Nat → Prop) (hs : a.eval s = v) (hx : a.eval x = .slice (some ⟨W.heap.size, 0, none⟩) 1 1) (hp : Kd.FK d W okp p cs) (hokp : ∀ k, okp k → ok k ∧ some k ≠ v.ownBlock) (hfresh : ∀ k, W.heap.size ≤ k → ok k)
    (HO : Kd.N d e W base ok v xs) (HB : Below base w0 W) (hbase : base ≤ W.heap.size) (hl : (xs.length + 1) * bytes ≤ 140737488355328)
    (h : ∀ v1 w1, Kd.N d e w1 base ok v1 (xs ++ [p]) → Below base w0 w1 → W.grownBy w1 v.ownBlock → (v1.ownBlock = v.ownBlock ∨ ∃ b, v1.ownBlock = some b ∧ W.heap.size ≤ b) → wpListIn F n P ops Q rest (a.put o.dst v1) w1) :
    wpListIn F n P ops Q (o :: rest) a (W.alloc (.cells cs.toArray e)) := by
  obtain ⟨h0, rows, hlr, hR, hf⟩ := HO
  obtain ⟨_, inner, hown, hr⟩ := Kd.raw_any hR
  obtain ⟨i0, hi, hzz⟩ := Option.map_eq_some_iff.1 hinfo
  simp only [Prod.mk.injEq] at hzz
  obtain ⟨hz0, hz1, hz2⟩ := hzz
  have hFK := Kd.FK_raw hp
  have hlen : rows.length + 1 ≤ 140737488355328 := Nat.le_trans (Nat.le_mul_of_pos_right _ hb0) (by rw [hlr]; exact hl)
  refine wpListIn_plain hgd fun K hK' => ?_
  obtain ⟨v1, w1, hrun, hown1, hg, _, hat⟩ := run_append_own_at (P := P) (w := W.alloc (.cells cs.toArray e)) base t o.type e i0 z d.sz bytes ht hi hz0 hz1 hz2 hz hs0 v rows.length inner (hown.alloc _) ⟨W.heap.size, 0, none⟩ 1 1 cs (by rw [hFK.2.1]; simp)
    (by simpa using World.news_of_block (cs := cs.toArray) (t := e) (fr := (0, 0)) (heap_alloc_new W (.cells cs.toArray e))) hFK.2.2 (by simp only [maxLen]; omega) (by rw [hlr]; exact hl) (by simp; omega)
  unfold Oper.wpIn
  refine ⟨?_, ?_⟩
  · simp [Oper.about, ho, resolve, Target.leads, Sem.run_pure]
  · rw [Oper.semAt_plain F _ _ (by rw [ho]; intro c hc'; cases hc')]
    simp [execOp, ho, resolve, invoke, builtin, hs, hx, hrun, Result.andThen]
    have hat' : v1.ownBlock = v.ownBlock ∨ ∃ b, v1.ownBlock = some b ∧ W.heap.size ≤ b := by
      rcases hat with hat | hat
      · exact .inl hat
      · exact .inr ⟨_, hat, by simp⟩
    have hg' : W.grownBy w1 v.ownBlock := World.grownBy.trans (World.grownBy_alloc W _ _) hg
    have hRr : (Kd.raw d.sz).R e w1 base (fun _ => True) v1 (rows ++ [cs]) := Kd.R_appended (okp := fun _ => False) (fun _ _ => trivial) (by simpa using hr) hFK (fun _ hk => hk.elim) (fun _ _ => trivial) hown1 hg' hat'
    exact hK' _ _ (h v1 w1 (Kd.N_appended h0 hlr hf (ys := [p]) (news := [cs]) rfl (fun j y c hy hc => by
      rcases j with _ | j
      · simp only [List.getElem?_cons_zero, Option.some.injEq] at hy hc
        rw [← hy, ← hc]; exact hp
      · simp at hy) hokp hfresh hRr hg' hat') ((HB.alloc hbase _).grown hg (by simp; omega) (own_base hown)) hg' hat')
theorem row_FK {W : World} {base : Nat} {v rv : Value} {xs : List Int} {ok ok' : Nat → Prop} {rows : List (List Int)} (h : Kd.R (Kd.int .i64) 3 W base (fun _ => True) v xs) (hN : Kd.N (Kd.slice 3 (Kd.int .i64)) 26 W base ok rv rows)
    (hok : ∀ k cells, W.heap[k]? = some (.cells cells 3 (0, 0)) → base ≤ k → ok' k) : Kd.FK (Kd.slice 3 (Kd.int .i64)) W (fun k => ok' k ∧ some k ≠ rv.ownBlock) xs [v] := by
  have h2 : Kd.R (Kd.int .i64) 3 W base (fun k => ok' k ∧ some k ≠ rv.ownBlock) v xs := by
    refine Kd.R_mono (Kd.R_bound h) fun k hk => ?_
    obtain ⟨_, hb, _, q, hq, cells, hc⟩ := hk
    have : q = 3 := by simpa [Kd.int, Kd.scalar] using hq
    subst this
    refine ⟨hok k cells hc hb, fun e => ?_⟩
    obtain ⟨cells2, hc2⟩ := Kd.N_typed hN k e.symm
    rw [hc] at hc2
    simp at hc2
  obtain ⟨A, c, rfl⟩ := Kd.R_slice h2
  exact Kd.FK_slice_mk (Kd.R_reads' h2).2.1 (Kd.R_F h2)
set_option maxHeartbeats 4000000 in
set_option maxRecDepth 100000 in
theorem append_calls {w0 : World} (kids : List S36) (hcnt : cntL kids ≤ 1000) (k0 : Int) (s0 : ByteArray) (c0 : Int) (A : Option Addr) (c g : Nat) (W : World)
    (hC : Kd.C k36 w0 A kids.length kids) (hc : kids.length ≤ c) (hbox : W.heap[g]? = some (.cells #[.int .i64 k0, .string s0, .int .i64 c0, .slice A kids.length c] 36 (0, 0))) (hb : Below w0.heap.size w0 W) (hNl : (posKids [] 0 kids).length ≤ 1000000) :
    Calls Tryd.prog 101 #[.slice none 0 0, .func (.func 102) #[] #[.pointer (some ⟨g, 0, none⟩)]] W fun e W' => ∃ v, e = .returned v ∧ Kd.N (Kd.slice 3 (Kd.int .i64)) 26 W' w0.heap.size (fun k => w0.heap.size ≤ k) v (posKids [] 0 kids) ∧ Below w0.heap.size w0 W' := by
  refine (callsIn_wide (n := 4)).1 (callsIn_of_wp_marks Tryd.func101 rfl trivial ?_ rfl)
  simp only [Tryd.ntmps101, List.size_toArray, List.length_cons, List.length_nil, Nat.reduceAdd, Nat.reduceSub, Array.replicate_succ, Array.replicate_zero, List.push_toArray, List.append_toArray, List.nil_append, List.cons_append]
  have HBX := Aside0.mk hbox
  clear hbox
  gi_wp2
  have hlg : g < W.heap.size := blk_lt HBX.out
  refine wpIn_rangeFunc_rows (N := 1000000) (all := posKids [] 0 kids) (w0 := w0) rfl (fun args w => by simp [go_sem]) (I := fun pre Wx => ∃ vb, Wx.heap[W.heap.size]? = some (.cells #[vb] 46 (0, 0)) ∧ Kd.N (Kd.slice 3 (Kd.int .i64)) 26 Wx w0.heap.size (fun k => w0.heap.size ≤ k ∧ k ≠ W.heap.size ∧ k ≠ W.heap.size + 1 ∧ k ≠ W.heap.size + 2) vb pre ∧ Below w0.heap.size w0 Wx) ?_ ?_ (fun v => { tmps := #[Value.slice none 0 0, Value.func (Fn.func 102) #[] #[Value.pointer (some { block := g, off := 0 })], Value.pointer (some { block := W.heap.size, off := 0 }), undef, Value.slice none 0 0, v, Value.func (Fn.func 102) #[] #[Value.pointer (some { block := g, off := 0 })], v, undef, undef, undef, undef, undef], defers := [] }) rfl ?_ ?_ ?_ ?_
  · refine ⟨fun h => h.choose_spec.2.2, ?_, ?_⟩
    · rintro pre X X' ⟨vb, h1, h2, h3⟩ hb'
      exact ⟨vb, blk_below h1 hb', Kd.N_below h2 hb', below_step h3 hb'⟩
    · rintro pre X l r r' hl ⟨vb, h1, h2, h3⟩ hr
      have hl' : l = W.heap.size + 2 := by rw [hl]; simp
      refine ⟨vb, (World.putObj_heap_other (by omega)).trans h1, Kd.N_step h2 (fun k hk _ => World.putObj_heap_other (by omega)), ?_⟩
      refine h3.trans ⟨rfl, rfl, rfl, by simp, fun i hi => World.putObj_heap_other (by have := hb.size; omega)⟩
  · exact ⟨_, blk_new _ _, Kd.N_nil _ _ _ _ _, below_alloc hb _⟩
  · intro l m v X K hK
    gi_wp2
    exact hK
  · intro l m pre xs v X hl hlp hdp hI hlen hR
    obtain ⟨vb, h1, h2, h3⟩ := hI
    have hl2 : l = W.heap.size + 2 := by rw [hl]; simp
    subst hl2
    obtain ⟨rl, hrl⟩ := hlp
    have hlW := blk_lt hrl
    simp only [World.size_alloc] at hdp
    have hw0W := hb.size
    have hFK := row_FK (ok' := fun k => w0.heap.size ≤ k ∧ k ≠ W.heap.size ∧ k ≠ W.heap.size + 1 ∧ k ≠ W.heap.size + 2) hR h2 (fun k cells hc hk => ?okk)
    case okk =>
      refine ⟨hk, ?_, ?_, ?_⟩
      · rintro rfl; rw [h1] at hc; simp at hc
      · rintro rfl; rw [hdp] at hc; simp at hc
      · rintro rfl; rw [hrl] at hc; simp at hc
    obtain ⟨Av, cv, rfl⟩ := Kd.R_slice hR
    obtain ⟨Ab, cb, rfl⟩ := Kd.N_slice h2
    have qb := (blk_cell h1 0).trans rfl
    have qz := blk_frozen h1 0
    have HX := Aside0.mk h1
    have HNv := Aside0.mk h2
    have HBv := Aside0.mk h3
    have HFv := Aside0.mk hFK
    clear h1 h2 h3 hFK
    gi_wp2_with (first | (gi_at_builtin; refine N_appendIn (Kd.slice 3 (Kd.int .i64)) (w0 := w0) w0.heap.size rfl (.tmp 8) (.tmp 10) 46 26 (.slice none 0 0) 24 rfl Tryd.underlying46 info26 rfl (by decide) (by omega) (.slice Ab pre.length cb) pre xs [.slice Av xs.length cv] (fun k => w0.heap.size ≤ k ∧ k ≠ W.heap.size ∧ k ≠ W.heap.size + 1 ∧ k ≠ W.heap.size + 2) (fun k => (w0.heap.size ≤ k ∧ k ≠ W.heap.size ∧ k ≠ W.heap.size + 1 ∧ k ≠ W.heap.size + 2) ∧ some k ≠ (Value.slice Ab pre.length cb).ownBlock) rfl rfl HFv.out (fun _ hk => hk) (fun k hk => by omega) HNv.out HBv.out (by omega) (by omega) ?_; intro v1 w1 hN1 hb1 hg1 hat1; obtain ⟨Ac, cc, rfl⟩ := Kd.N_slice hN1; have HX1 := Aside0.mk (blk_grown HX.out hg1 (Kd.N_ne HNv.out HX.out (by decide))); have qb1 := (blk_cell HX1.out 0).trans rfl; have qf1 := blk_frozen HX1.out 0; have HN1 := Aside0.mk hN1; have HB1 := Aside0.mk hb1; have HG1 := Aside0.mk hg1; clear hN1 hb1 hg1 hat1))
    have hN1' : Kd.N (Kd.slice 3 (Kd.int .i64)) 26 w1 w0.heap.size (fun k => w0.heap.size ≤ k ∧ k ≠ W.heap.size ∧ k ≠ W.heap.size + 1 ∧ k ≠ W.heap.size + 2) (.slice Ac (pre.length + 1) cc) (pre ++ [xs]) := by simpa using HN1.out
    refine ⟨⟨_, ?_, Kd.N_mono (Kd.N_far hN1' (fun k hk => hk.2.1) _) (fun k hk => by simpa using hk), below_set HB1.out hw0W⟩, ⟨by have := HG1.out.size; simpa [World.setCell] using this, fun k cells t fr hc ht => ?_⟩, fun k o hc ho => ?_⟩
    · have := blk_set HX1.out 0 (Value.slice Ac (pre.length + 1) cc)
      simpa using this
    · have hkB : k ≠ W.heap.size := by rintro rfl; rw [HX.out] at hc; rcases ht with rfl | rfl <;> simp at hc
      have hkR : some k ≠ (Value.slice Ab pre.length cb).ownBlock := by
        intro he
        obtain ⟨cells2, hc2⟩ := Kd.N_typed HNv.out k he.symm
        rw [hc] at hc2
        rcases ht with rfl | rfl <;> simp at hc2
      rw [Below.heap_setCell _ _ _ _ hkB]
      exact (HG1.out.block k (blk_lt hc) hkR).trans hc
    · have hkB : k ≠ W.heap.size := by rintro rfl; rw [HX.out] at hc; simp at hc; subst hc; simp [Obj.isCells] at ho
      have hkR : some k ≠ (Value.slice Ab pre.length cb).ownBlock := by
        intro he
        obtain ⟨cells2, hc2⟩ := Kd.N_typed HNv.out k he.symm
        rw [hc] at hc2
        simp at hc2
        subst hc2
        simp [Obj.isCells] at ho
      rw [Below.heap_setCell _ _ _ _ hkB]
      exact (HG1.out.block k (blk_lt hc) hkR).trans hc
  · intro l J X Y hbX hJ
    refine (seq_calls Y (by omega) kids hcnt k0 s0 c0 A c g X hC hc ?_ hJ hNl)
    exact blk_below (blk_alloc HBX.out _) hbX
  · intro D X hD hI hX
    obtain ⟨vb, h1, h2, h3⟩ := hI
    have qb := (blk_cell h1 0).trans rfl
    have HNv := Aside0.mk h2
    have HBv := Aside0.mk h3
    clear h1 h2 h3
    gi_wp2
    have hD' : D = W.heap.size + 1 := by rw [hD]; simp
    refine ⟨by simp, .inl ⟨D, _, rfl, run_takeDeferred hX, ?_⟩⟩
    refine ⟨_, results_tmp rfl _ _ _, _, rfl, Kd.N_mono (Kd.N_step HNv.out (fun k hk _ => World.putObj_heap_other (by omega))) (fun _ hk => hk.1), ?_⟩
    exact HBv.out.trans ⟨rfl, rfl, rfl, by simp, fun i hi => World.putObj_heap_other (by have := hb.size; omega)⟩
end pob
end Go.Proofs.YtagkhoeidjlahaaDoor.G
namespace Go.Proofs.YtagkhoeidjlahaaDoor.G
open Go.RowKit Go.Proofs.YtagkhoeidjlahaaDoorW.PrintWords Go.Proofs.YtagkhoeidjlahaaDoorW.PrintLast Go.Proofs.YtagkhoeidjlahaaDoorW.PrintMore
attribute [local go_sem] max2_int min2_int max_two min_two max_three min_three max_four min_four
set_option linter.unusedVariables false
set_option linter.unusedSimpArgs false
def position_All.f (k : Nat) (a0_0 : Int) (a0_1 : ByteArray) (a0_2 : Int) (l0_3 : List (S36)) : Option (List (List Int) × Int) := (node_Valid.f k a0_0 a0_1 a0_2 l0_3).bind fun v => if v = true then some (posKids [] 0 l0_3, 0) else some ([], 1)
theorem position_All.mono : ∀ a0 a1 a2 a3 k, LeO (position_All.f k a0 a1 a2 a3) (position_All.f (k + 1) a0 a1 a2 a3) := fun a0 a1 a2 a3 k => LeO.bind (node_Valid.mono _ _ _ _ _) fun _ => LeO.refl _
set_option maxHeartbeats 4000000 in

theorem position_All.calls (k : Nat) (a0_0 : Int) (a0_1 : ByteArray) (a0_2 : Int) (A0_3 : Option Addr) (c0_3 : Nat) (l0_3 : List (S36)) (r1 : List (List Int)) (r2 : Int) (w : World) (hr0_3 : Kd.C k36 w A0_3 l0_3.length l0_3) (hc0_3 : l0_3.length ≤ c0_3) (h : position_All.f k a0_0 a0_1 a0_2 l0_3 = some (r1, r2)) :
    Calls Tryd.prog 37 #[.agg #[.int .i64 a0_0, .string a0_1, .int .i64 a0_2, .slice A0_3 l0_3.length c0_3]] w fun e w' => ∃ v0_ : Value, e = .returned (.tuple #[v0_, .int .i64 r2]) ∧ Kd.N (Kd.slice 3 (Kd.int .i64)) 26 w' w.heap.size (fun k_ => (w.heap.size ≤ k_)) v0_ r1 ∧ Below w.heap.size w w' := by
  have hu36 := Tryd.underlying36
  obtain ⟨b, hv, h⟩ := Option.bind_eq_some_iff.mp h
  have hm := hr0_3.2.1
  have HV := Aside0.mk hv
  have HR := Aside0.mk hr0_3
  have HC := Aside0.mk hc0_3
  have HX := Aside0.mk (blk_new w (.cells #[.int .i64 a0_0, .string a0_1, .int .i64 a0_2, .slice A0_3 l0_3.length c0_3] 36))
  have HB := Aside0.mk (below_alloc (Below.refl w.heap.size w) (.cells #[.int .i64 a0_0, .string a0_1, .int .i64 a0_2, .slice A0_3 l0_3.length c0_3] 36))
  clear hr0_3 hc0_3 hv
  have HH := Aside0.mk h
  clear h
  go_enter Tryd.func37, Tryd.ntmps37
  go_wp2_with fail
  refine (node_Valid.calls k a0_0 a0_1 a0_2 A0_3 c0_3 l0_3 b _ (Kd.C_alloc HR.out _) HC.out HV.out).mono ?_
  rintro e w2 ⟨rfl, hb⟩
  have HX2 := Aside0.mk (blk_below HX.out hb)
  have HB2 := Aside0.mk (below_step HB.out hb)
  clear hb HX HB
  have q0 := (blk_cell HX2.out 0).trans rfl
  have q1 := (blk_cell HX2.out 1).trans rfl
  have q2 := (blk_cell HX2.out 2).trans rfl
  have q3 := (blk_cell HX2.out 3).trans rfl
  cases b with
  | false =>
    have h := HH.out
    simp at h
    obtain ⟨rfl, rfl⟩ := h
    go_wp2
    go_ret2
    exact ⟨_, rfl, Kd.N_nil _ _ _ _ _, HB2.out⟩
  | true =>
    have h := HH.out
    simp at h
    obtain ⟨rfl, rfl⟩ := h
    have hcn : cntL l0_3 ≤ 1000 := by
      have h1 := HV.out
      unfold node_Valid.f at h1
      split at h1
      · obtain ⟨⟨b, l'⟩, h2, h3⟩ := Option.bind_eq_some_iff.mp h1
        simp at h3
        subst h3
        have := chk_cnt _ _ _ _ _ h2
        rw [cnt_eq] at this
        simp at this
        omega
      · simp at h1
    have HCn := Aside0.mk hcn
    have HLen := Aside0.mk (posKids_len [] 0 l0_3)
    clear hcn
    go_wp2_with fail
    refine (positions_calls w2).mono ?_
    rintro e w3 ⟨rfl, rfl⟩
    have HX3 := Aside0.mk (blk_new w2 (.cells #[.int .i64 a0_0, .string a0_1, .int .i64 a0_2, .slice A0_3 l0_3.length c0_3] 36))
    have HB3 := Aside0.mk (below_alloc HB2.out (.cells #[.int .i64 a0_0, .string a0_1, .int .i64 a0_2, .slice A0_3 l0_3.length c0_3] 36))
    go_wp2_with fail
    refine (collect_calls (append_calls (w0 := w) l0_3 HCn.out a0_0 a0_1 a0_2 A0_3 c0_3 w2.heap.size _ HR.out HC.out HX3.out HB3.out (by have := HCn.out; have := HLen.out; omega))).mono ?_
    rintro e w4 ⟨v, rfl, hN, hB⟩
    have HN := Aside0.mk hN
    have HB4 := Aside0.mk hB
    clear hN hB
    go_wp2
    go_ret2
    exact ⟨_, rfl, HN.out, HB4.out⟩
end Go.Proofs.YtagkhoeidjlahaaDoor.G
namespace Go.Proofs.YtagkhoeidjlahaaDoor.G
open Go.RowKit Go.Proofs.YtagkhoeidjlahaaDoorW.PrintWords Go.Proofs.YtagkhoeidjlahaaDoorW.PrintLast Go.Proofs.YtagkhoeidjlahaaDoorW.PrintMore
attribute [local go_sem] max2_int min2_int max_two min_two max_three min_three max_four min_four
set_option linter.unusedVariables false
set_option linter.unusedSimpArgs false
def cmp_isNaN_int.f (a0 : Int) : Option (Bool) := some (a0 != a0)
set_option maxHeartbeats 8000000 in
set_option maxRecDepth 100000 in
theorem cmp_isNaN_int.calls (a0 : Int) (r : Bool) (w : World) (h : cmp_isNaN_int.f a0 = some r) :
    Calls Tryd.prog 112 #[.int .i64 a0] w fun e w' => e = .returned (.bool r) ∧ Drawn0 w w' := by
  have H : (some (a0 != a0)) = some r := h
  clear h
  obtain rfl := Option.some.inj H
  go_enter Tryd.func112, Tryd.ntmps112
  go_wp2
  go_ret
  exact ⟨by first | rfl | (simp; done) | (simp [*]; done), by repeat (first | exact Drawn0.refl _ | apply Drawn0.step)⟩
end Go.Proofs.YtagkhoeidjlahaaDoor.G
namespace Go.Proofs.YtagkhoeidjlahaaDoor.G
open Go.RowKit Go.Proofs.YtagkhoeidjlahaaDoorW.PrintWords Go.Proofs.YtagkhoeidjlahaaDoorW.PrintLast Go.Proofs.YtagkhoeidjlahaaDoorW.PrintMore
attribute [local go_sem] max2_int min2_int max_two min_two max_three min_three max_four min_four
set_option linter.unusedVariables false
set_option linter.unusedSimpArgs false
def cmp_Compare_int.f (a0 : Int) (a1 : Int) : Option (Int) := (cmp_isNaN_int.f a0).bind fun t390 => ((cmp_isNaN_int.f a1).bind fun t391 => (if t390 = true then (if t391 = true then (some 0) else (some (-1))) else (if t391 = true then (some 1) else (if a0 < a1 then (some (-1)) else (if a0 > a1 then (some 1) else (some 0))))))
set_option maxHeartbeats 8000000 in
set_option maxRecDepth 100000 in
theorem cmp_Compare_int.calls (a0 : Int) (a1 : Int) (r : Int) (w : World) (h : cmp_Compare_int.f a0 a1 = some r) :
    Calls Tryd.prog 98 #[.int .i64 a0, .int .i64 a1] w fun e w' => e = .returned (.int .i64 r) ∧ Drawn0 w w' := by
  have H : ((cmp_isNaN_int.f a0).bind fun t390 => ((cmp_isNaN_int.f a1).bind fun t391 => (if t390 = true then (if t391 = true then (some 0) else (some (-1))) else (if t391 = true then (some 1) else (if a0 < a1 then (some (-1)) else (if a0 > a1 then (some 1) else (some 0))))))) = some r := h
  clear h
  replace H := Option.bind_eq_some_iff.mp H
  obtain ⟨t390, A30, H⟩ := H
  replace H : ((cmp_isNaN_int.f a1).bind fun t391 => (if t390 = true then (if t391 = true then (some 0) else (some (-1))) else (if t391 = true then (some 1) else (if a0 < a1 then (some (-1)) else (if a0 > a1 then (some 1) else (some 0)))))) = some r := H
  have A3 := Aside0.mk A30
  clear A30
  replace H := Option.bind_eq_some_iff.mp H
  obtain ⟨t391, A40, H⟩ := H
  replace H : (if t390 = true then (if t391 = true then (some 0) else (some (-1))) else (if t391 = true then (some 1) else (if a0 < a1 then (some (-1)) else (if a0 > a1 then (some 1) else (some 0))))) = some r := H
  have A4 := Aside0.mk A40
  clear A40
  by_cases c5 : t390 = true
  · subst c5
    have H1 : (if t391 = true then (some 0) else (some (-1))) = some r := by rw [if_pos rfl] at H; exact H
    clear H
    have H := H1
    clear H1
    by_cases c6 : t391 = true
    · subst c6
      have H1 : (some 0) = some r := by rw [if_pos rfl] at H; exact H
      clear H
      have H := H1
      clear H1
      obtain rfl := Option.some.inj H
      go_enter Tryd.func98, Tryd.ntmps98
      go_wp2_with (first | ((with_reducible refine gate_callee (f := 112) rfl ?_); refine goesL_ (some 8) rfl rfl Tryd.func112 (by kernel_rfl) rfl #[.int .i64 a0] rfl (by (try simp only [List.map_toArray, List.map_cons, List.map_nil]); first | done | rfl | (simp only [List.length_drop, List.length_take]; rfl)) ?_; (with_reducible refine (cmp_isNaN_int.calls a0 true _ A3.out).mono ?_); rintro e w' ⟨rfl, ⟨nd, rfl⟩⟩; refine ⟨_, rfl, ?_⟩) | ((with_reducible refine gate_callee (f := 112) rfl ?_); refine goesL_ (some 10) rfl rfl Tryd.func112 (by kernel_rfl) rfl #[.int .i64 a1] rfl (by (try simp only [List.map_toArray, List.map_cons, List.map_nil]); first | done | rfl | (simp only [List.length_drop, List.length_take]; rfl)) ?_; (with_reducible refine (cmp_isNaN_int.calls a1 true _ A4.out).mono ?_); rintro e w' ⟨rfl, ⟨nd, rfl⟩⟩; refine ⟨_, rfl, ?_⟩))
      go_ret
      exact ⟨by first | rfl | (simp; done) | (simp [*]; done), by repeat (first | exact Drawn0.refl _ | apply Drawn0.step)⟩
    · replace c6 := Bool.eq_false_iff.mpr c6
      subst c6
      have H1 : (some (-1)) = some r := by rw [if_neg (show ¬ (false = true) by decide)] at H; exact H
      clear H
      have H := H1
      clear H1
      obtain rfl := Option.some.inj H
      go_enter Tryd.func98, Tryd.ntmps98
      go_wp2_with (first | ((with_reducible refine gate_callee (f := 112) rfl ?_); refine goesL_ (some 8) rfl rfl Tryd.func112 (by kernel_rfl) rfl #[.int .i64 a0] rfl (by (try simp only [List.map_toArray, List.map_cons, List.map_nil]); first | done | rfl | (simp only [List.length_drop, List.length_take]; rfl)) ?_; (with_reducible refine (cmp_isNaN_int.calls a0 true _ A3.out).mono ?_); rintro e w' ⟨rfl, ⟨nd, rfl⟩⟩; refine ⟨_, rfl, ?_⟩) | ((with_reducible refine gate_callee (f := 112) rfl ?_); refine goesL_ (some 10) rfl rfl Tryd.func112 (by kernel_rfl) rfl #[.int .i64 a1] rfl (by (try simp only [List.map_toArray, List.map_cons, List.map_nil]); first | done | rfl | (simp only [List.length_drop, List.length_take]; rfl)) ?_; (with_reducible refine (cmp_isNaN_int.calls a1 false _ A4.out).mono ?_); rintro e w' ⟨rfl, ⟨nd, rfl⟩⟩; refine ⟨_, rfl, ?_⟩))
      go_ret
      exact ⟨by first | rfl | (simp; done) | (simp [*]; done), by repeat (first | exact Drawn0.refl _ | apply Drawn0.step)⟩
  · replace c5 := Bool.eq_false_iff.mpr c5
    subst c5
    have H1 : (if t391 = true then (some 1) else (if a0 < a1 then (some (-1)) else (if a0 > a1 then (some 1) else (some 0)))) = some r := by rw [if_neg (show ¬ (false = true) by decide)] at H; exact H
    clear H
    have H := H1
    clear H1
    by_cases c7 : t391 = true
    · subst c7
      have H1 : (some 1) = some r := by rw [if_pos rfl] at H; exact H
      clear H
      have H := H1
      clear H1
      obtain rfl := Option.some.inj H
      go_enter Tryd.func98, Tryd.ntmps98
      go_wp2_with (first | ((with_reducible refine gate_callee (f := 112) rfl ?_); refine goesL_ (some 8) rfl rfl Tryd.func112 (by kernel_rfl) rfl #[.int .i64 a0] rfl (by (try simp only [List.map_toArray, List.map_cons, List.map_nil]); first | done | rfl | (simp only [List.length_drop, List.length_take]; rfl)) ?_; (with_reducible refine (cmp_isNaN_int.calls a0 false _ A3.out).mono ?_); rintro e w' ⟨rfl, ⟨nd, rfl⟩⟩; refine ⟨_, rfl, ?_⟩) | ((with_reducible refine gate_callee (f := 112) rfl ?_); refine goesL_ (some 10) rfl rfl Tryd.func112 (by kernel_rfl) rfl #[.int .i64 a1] rfl (by (try simp only [List.map_toArray, List.map_cons, List.map_nil]); first | done | rfl | (simp only [List.length_drop, List.length_take]; rfl)) ?_; (with_reducible refine (cmp_isNaN_int.calls a1 true _ A4.out).mono ?_); rintro e w' ⟨rfl, ⟨nd, rfl⟩⟩; refine ⟨_, rfl, ?_⟩))
      go_ret
      exact ⟨by first | rfl | (simp; done) | (simp [*]; done), by repeat (first | exact Drawn0.refl _ | apply Drawn0.step)⟩
    · replace c7 := Bool.eq_false_iff.mpr c7
      subst c7
      have H1 : (if a0 < a1 then (some (-1)) else (if a0 > a1 then (some 1) else (some 0))) = some r := by rw [if_neg (show ¬ (false = true) by decide)] at H; exact H
      clear H
      have H := H1
      clear H1
      by_cases c8 : a0 < a1
      · rw [if_pos c8] at H
        have c8b0 : decide (a0 < a1) = true := decide_eq_true c8
        clear c8
        obtain rfl := Option.some.inj H
        go_enter Tryd.func98, Tryd.ntmps98
        go_wp2_with (first | ((with_reducible refine gate_callee (f := 112) rfl ?_); refine goesL_ (some 8) rfl rfl Tryd.func112 (by kernel_rfl) rfl #[.int .i64 a0] rfl (by (try simp only [List.map_toArray, List.map_cons, List.map_nil]); first | done | rfl | (simp only [List.length_drop, List.length_take]; rfl)) ?_; (with_reducible refine (cmp_isNaN_int.calls a0 false _ A3.out).mono ?_); rintro e w' ⟨rfl, ⟨nd, rfl⟩⟩; refine ⟨_, rfl, ?_⟩) | ((with_reducible refine gate_callee (f := 112) rfl ?_); refine goesL_ (some 10) rfl rfl Tryd.func112 (by kernel_rfl) rfl #[.int .i64 a1] rfl (by (try simp only [List.map_toArray, List.map_cons, List.map_nil]); first | done | rfl | (simp only [List.length_drop, List.length_take]; rfl)) ?_; (with_reducible refine (cmp_isNaN_int.calls a1 false _ A4.out).mono ?_); rintro e w' ⟨rfl, ⟨nd, rfl⟩⟩; refine ⟨_, rfl, ?_⟩))
        go_ret
        exact ⟨by first | rfl | (simp; done) | (simp [*]; done), by repeat (first | exact Drawn0.refl _ | apply Drawn0.step)⟩
      · rw [if_neg c8] at H
        have c8b0 : decide (a0 < a1) = false := decide_eq_false c8
        clear c8
        by_cases c9 : a0 > a1
        · rw [if_pos c9] at H
          have c9b0 : decide (a1 < a0) = true := decide_eq_true c9
          clear c9
          obtain rfl := Option.some.inj H
          go_enter Tryd.func98, Tryd.ntmps98
          go_wp2_with (first | ((with_reducible refine gate_callee (f := 112) rfl ?_); refine goesL_ (some 8) rfl rfl Tryd.func112 (by kernel_rfl) rfl #[.int .i64 a0] rfl (by (try simp only [List.map_toArray, List.map_cons, List.map_nil]); first | done | rfl | (simp only [List.length_drop, List.length_take]; rfl)) ?_; (with_reducible refine (cmp_isNaN_int.calls a0 false _ A3.out).mono ?_); rintro e w' ⟨rfl, ⟨nd, rfl⟩⟩; refine ⟨_, rfl, ?_⟩) | ((with_reducible refine gate_callee (f := 112) rfl ?_); refine goesL_ (some 10) rfl rfl Tryd.func112 (by kernel_rfl) rfl #[.int .i64 a1] rfl (by (try simp only [List.map_toArray, List.map_cons, List.map_nil]); first | done | rfl | (simp only [List.length_drop, List.length_take]; rfl)) ?_; (with_reducible refine (cmp_isNaN_int.calls a1 false _ A4.out).mono ?_); rintro e w' ⟨rfl, ⟨nd, rfl⟩⟩; refine ⟨_, rfl, ?_⟩))
          go_ret
          exact ⟨by first | rfl | (simp; done) | (simp [*]; done), by repeat (first | exact Drawn0.refl _ | apply Drawn0.step)⟩
        · rw [if_neg c9] at H
          have c9b0 : decide (a1 < a0) = false := decide_eq_false c9
          clear c9
          obtain rfl := Option.some.inj H
          go_enter Tryd.func98, Tryd.ntmps98
          go_wp2_with (first | ((with_reducible refine gate_callee (f := 112) rfl ?_); refine goesL_ (some 8) rfl rfl Tryd.func112 (by kernel_rfl) rfl #[.int .i64 a0] rfl (by (try simp only [List.map_toArray, List.map_cons, List.map_nil]); first | done | rfl | (simp only [List.length_drop, List.length_take]; rfl)) ?_; (with_reducible refine (cmp_isNaN_int.calls a0 false _ A3.out).mono ?_); rintro e w' ⟨rfl, ⟨nd, rfl⟩⟩; refine ⟨_, rfl, ?_⟩) | ((with_reducible refine gate_callee (f := 112) rfl ?_); refine goesL_ (some 10) rfl rfl Tryd.func112 (by kernel_rfl) rfl #[.int .i64 a1] rfl (by (try simp only [List.map_toArray, List.map_cons, List.map_nil]); first | done | rfl | (simp only [List.length_drop, List.length_take]; rfl)) ?_; (with_reducible refine (cmp_isNaN_int.calls a1 false _ A4.out).mono ?_); rintro e w' ⟨rfl, ⟨nd, rfl⟩⟩; refine ⟨_, rfl, ?_⟩))
          go_ret
          exact ⟨by first | rfl | (simp; done) | (simp [*]; done), by repeat (first | exact Drawn0.refl _ | apply Drawn0.step)⟩
end Go.Proofs.YtagkhoeidjlahaaDoor.G
namespace Go.Proofs.YtagkhoeidjlahaaDoor.G
open Go.RowKit Go.Proofs.YtagkhoeidjlahaaDoorW.PrintWords Go.Proofs.YtagkhoeidjlahaaDoorW.PrintLast Go.Proofs.YtagkhoeidjlahaaDoorW.PrintMore
attribute [local go_sem] max2_int min2_int max_two min_two max_three min_three max_four min_four
set_option linter.unusedVariables false
set_option linter.unusedSimpArgs false
def slices_Compare_int_int.l0 : Nat → List Int → List Int → List Int → Int → Int → Option (Int)
  | 0, _, _, _, _, _ => none
  | k + 1, x0, x1, x9, x10, x11 => if x11 < x10 then (if 0 ≤ x11 then (if x11 < (x9.length : Int) then (if x11 ≥ (x1.length : Int) then (some 1) else (if x11 < (x1.length : Int) then ((cmp_Compare_int.f (rd x9 x11) (rd x1 x11)).bind fun t394 => (if t394 = 0 then (slices_Compare_int_int.l0 k x0 x1 x9 x10 (wrap64 (x11 + 1))) else (some t394))) else (none))) else (none)) else (none)) else (if (x0.length : Int) < (x1.length : Int) then (some (-1)) else (some 0))
def slices_Compare_int_int.f (k : Nat) (l0 : List Int) (l1 : List Int) : Option (Int) := slices_Compare_int_int.l0 k l0 l1 l0 (l0.length : Int) 0
theorem slices_Compare_int_int.mono_l : ∀ k, (∀ y0 y1 y2 y3 y4, LeO (slices_Compare_int_int.l0 k y0 y1 y2 y3 y4) (slices_Compare_int_int.l0 (k + 1) y0 y1 y2 y3 y4))
  | 0 => fun _ _ _ _ _ r h => by simp [slices_Compare_int_int.l0] at h
  | k + 1 => by
    have ih0 := slices_Compare_int_int.mono_l k
    · intro y0 y1 y2 y3 y4
      unfold slices_Compare_int_int.l0
      repeat' first
      | (with_reducible exact ih0 _ _ _ _ _)
      | (with_reducible exact LeO.refl _)
      | (with_reducible exact LeO.none _)
      | (with_reducible refine LeO.ite ?_ ?_)
      | (with_reducible refine LeO.bind ?_ (fun _ => ?_))
      | exact ih0 _ _ _ _ _
      | exact LeO.none _
      | refine LeO.ite ?_ ?_
      | refine LeO.bind ?_ (fun _ => ?_)
theorem slices_Compare_int_int.mono : ∀ a0 a1 k, LeO (slices_Compare_int_int.f k a0 a1) (slices_Compare_int_int.f (k + 1) a0 a1) := by
  intro a0 a1 k
  have ih0 := slices_Compare_int_int.mono_l k
  unfold slices_Compare_int_int.f
  repeat' first
      | (with_reducible exact ih0 _ _ _ _ _)
      | (with_reducible exact LeO.refl _)
      | (with_reducible exact LeO.none _)
      | (with_reducible refine LeO.ite ?_ ?_)
      | (with_reducible refine LeO.bind ?_ (fun _ => ?_))
      | exact ih0 _ _ _ _ _
      | exact LeO.none _
      | refine LeO.ite ?_ ?_
      | refine LeO.bind ?_ (fun _ => ?_)
set_option maxHeartbeats 8000000 in
set_option maxRecDepth 100000 in
theorem slices_Compare_int_int.calls (k : Nat) (A0 : Option Addr) (c0 : Nat) (l0 : List Int) (A1 : Option Addr) (c1 : Nat) (l1 : List Int) (r : Int) (w : World) (hr0 : Kd.C (Kd.int .i64) w A0 l0.length l0) (hc0 : l0.length ≤ c0) (hr1 : Kd.C (Kd.int .i64) w A1 l1.length l1) (hc1 : l1.length ≤ c1) (h : slices_Compare_int_int.f k l0 l1 = some r) :
    Calls Tryd.prog 70 #[.slice A0 l0.length c0, .slice A1 l1.length c1] w fun e w' => e = .returned (.int .i64 r) ∧ Drawn0 w w' := by
  have HR0 := Aside0.mk hr0
  have HC0 := Aside0.mk hc0
  clear hr0 hc0
  have HR1 := Aside0.mk hr1
  have HC1 := Aside0.mk hc1
  clear hr1 hc1
  have H : (slices_Compare_int_int.l0 k l0 l1 l0 (l0.length : Int) 0) = some r := h
  clear h
  have H' := Aside0.mk H
  clear H
  go_enter Tryd.func70, Tryd.ntmps70
  go_wp2
  go_loopg [11] k (fun kq v11 w' => ∃ (x11_1 : Int), v11 = .int .i64 x11_1 ∧ Aside0 (slices_Compare_int_int.l0 kq l0 l1 l0 (l0.length : Int) x11_1 = some r) ∧ Aside0 (kq ≤ k) ∧ Drawn0 w w')
  case atStart => exact ⟨(0), (by first | rfl | (simp; done) | (simp [*]; done)), H', ⟨Nat.le_refl _⟩, by repeat (first | exact Drawn0.refl _ | apply Drawn0.step)⟩
  case round =>
    clear H'
    try clear c1
    try clear p2
    obtain ⟨x11_1, rfl, HA, HK1, ⟨m1, rfl⟩⟩ := hrel
    cases gk with
    | zero => exact absurd HA.out (by simp [slices_Compare_int_int.l0])
    | succ k1 =>
      have H := HA.out
      clear HA
      simp only [slices_Compare_int_int.l0] at H
      by_cases c3 : x11_1 < (l0.length : Int)
      · rw [if_pos c3] at H
        have c3b0 : decide (x11_1 < (l0.length : Int)) = true := decide_eq_true c3
        clear c3
        by_cases c4 : 0 ≤ x11_1
        · rw [if_pos c4] at H
          have c4b0 : decide (0 ≤ x11_1) = true := decide_eq_true c4
          clear c4
          by_cases c5 : x11_1 < (l0.length : Int)
          · rw [if_pos c5] at H
            have c5b0 : decide (x11_1 < (l0.length : Int)) = true := decide_eq_true c5
            clear c5
            by_cases c6 : x11_1 ≥ (l1.length : Int)
            · rw [if_pos c6] at H
              have c6b0 : decide ((l1.length : Int) ≤ x11_1) = true := decide_eq_true c6
              clear c6
              obtain rfl := Option.some.inj H
              have p392 : 0 ≤ (x11_1 : Int) := of_decide_eq_true (by first | (with_reducible assumption) | assumption)
              have q392 : x11_1 < (l0.length : Int) := of_decide_eq_true (by first | (with_reducible assumption) | assumption)
              obtain ⟨ad392, e392, hx392_0⟩ := Kd.at_int HR0.out x11_1 p392 q392
              cases e392
              replace p392 := eq_true p392
              replace q392 := eq_true q392
              go_wp2
              go_ret
              exact ⟨by first | rfl | (simp; done) | (simp [*]; done), by repeat (first | exact Drawn0.refl _ | apply Drawn0.step)⟩
            · rw [if_neg c6] at H
              have c6b0 : decide ((l1.length : Int) ≤ x11_1) = false := decide_eq_false c6
              clear c6
              by_cases c7 : x11_1 < (l1.length : Int)
              · rw [if_pos c7] at H
                have c7b0 : decide (x11_1 < (l1.length : Int)) = true := decide_eq_true c7
                clear c7
                replace H := Option.bind_eq_some_iff.mp H
                obtain ⟨t394, A80, H⟩ := H
                replace H : (if t394 = 0 then (slices_Compare_int_int.l0 k1 l0 l1 l0 (l0.length : Int) (wrap64 (x11_1 + 1))) else (some t394)) = some r := H
                have A8 := Aside0.mk A80
                clear A80
                by_cases c9 : t394 = 0
                · rw [if_pos c9] at H
                  have c9b0 : (t394 == 0) = true := beq_iff_eq.mpr c9
                  have c9b1 : (t394 != 0) = false := bne_eq_false_iff_eq.mpr c9
                  clear c9
                  have H' := Aside0.mk H
                  clear H
                  have p392 : 0 ≤ (x11_1 : Int) := of_decide_eq_true (by first | (with_reducible assumption) | assumption)
                  have q392 : x11_1 < (l0.length : Int) := of_decide_eq_true (by first | (with_reducible assumption) | assumption)
                  obtain ⟨ad392, e392, hx392_0⟩ := Kd.at_int HR0.out x11_1 p392 q392
                  cases e392
                  replace p392 := eq_true p392
                  replace q392 := eq_true q392
                  have p393 : 0 ≤ (x11_1 : Int) := of_decide_eq_true (by first | (with_reducible assumption) | assumption)
                  have q393 : x11_1 < (l1.length : Int) := of_decide_eq_true (by first | (with_reducible assumption) | assumption)
                  obtain ⟨ad393, e393, hx393_0⟩ := Kd.at_int HR1.out x11_1 p393 q393
                  cases e393
                  replace p393 := eq_true p393
                  replace q393 := eq_true q393
                  go_wp2_with (first | ((with_reducible refine gate_callee (f := 98) rfl ?_); refine goesL_ (some 26) rfl rfl Tryd.func98 (by kernel_rfl) rfl #[.int .i64 (rd l0 x11_1), .int .i64 (rd l1 x11_1)] rfl (by (try simp only [List.map_toArray, List.map_cons, List.map_nil]); first | done | rfl | (simp only [List.length_drop, List.length_take]; rfl)) ?_; (with_reducible refine (cmp_Compare_int.calls (rd l0 x11_1) (rd l1 x11_1) t394 _ A8.out).mono ?_); rintro e w' ⟨rfl, ⟨nd, rfl⟩⟩; refine ⟨_, rfl, ?_⟩))
                  go_roundg k1
                  case measure => have := HK1.out; omega
                  case rel => exact ⟨(wrap64 (x11_1 + 1)), (by first | rfl | (simp; done) | (simp [*]; done)), H', ⟨by have := HK1.out; omega⟩, by repeat (first | exact Drawn0.refl _ | apply Drawn0.step)⟩
                · rw [if_neg c9] at H
                  have c9b0 : (t394 == 0) = false := beq_eq_false_iff_ne.mpr c9
                  have c9b1 : (t394 != 0) = true := bne_iff_ne.mpr c9
                  obtain rfl := Option.some.inj H
                  have p392 : 0 ≤ (x11_1 : Int) := of_decide_eq_true (by first | (with_reducible assumption) | assumption)
                  have q392 : x11_1 < (l0.length : Int) := of_decide_eq_true (by first | (with_reducible assumption) | assumption)
                  obtain ⟨ad392, e392, hx392_0⟩ := Kd.at_int HR0.out x11_1 p392 q392
                  cases e392
                  replace p392 := eq_true p392
                  replace q392 := eq_true q392
                  have p393 : 0 ≤ (x11_1 : Int) := of_decide_eq_true (by first | (with_reducible assumption) | assumption)
                  have q393 : x11_1 < (l1.length : Int) := of_decide_eq_true (by first | (with_reducible assumption) | assumption)
                  obtain ⟨ad393, e393, hx393_0⟩ := Kd.at_int HR1.out x11_1 p393 q393
                  cases e393
                  replace p393 := eq_true p393
                  replace q393 := eq_true q393
                  go_wp2_with (first | ((with_reducible refine gate_callee (f := 98) rfl ?_); refine goesL_ (some 26) rfl rfl Tryd.func98 (by kernel_rfl) rfl #[.int .i64 (rd l0 x11_1), .int .i64 (rd l1 x11_1)] rfl (by (try simp only [List.map_toArray, List.map_cons, List.map_nil]); first | done | rfl | (simp only [List.length_drop, List.length_take]; rfl)) ?_; (with_reducible refine (cmp_Compare_int.calls (rd l0 x11_1) (rd l1 x11_1) t394 _ A8.out).mono ?_); rintro e w' ⟨rfl, ⟨nd, rfl⟩⟩; refine ⟨_, rfl, ?_⟩))
                  go_ret
                  exact ⟨by first | rfl | (simp; done) | (simp [*]; done), by repeat (first | exact Drawn0.refl _ | apply Drawn0.step)⟩
              · rw [if_neg c7] at H
                exact absurd H (by simp)
          · rw [if_neg c5] at H
            exact absurd H (by simp)
        · rw [if_neg c4] at H
          exact absurd H (by simp)
      · rw [if_neg c3] at H
        have c3b0 : decide (x11_1 < (l0.length : Int)) = false := decide_eq_false c3
        clear c3
        by_cases c10 : (l0.length : Int) < (l1.length : Int)
        · rw [if_pos c10] at H
          have c10b0 : decide ((l0.length : Int) < (l1.length : Int)) = true := decide_eq_true c10
          have c10b1 : decide (l0.length < l1.length) = true := decide_eq_true (Int.ofNat_lt.mp c10)
          clear c10
          obtain rfl := Option.some.inj H
          go_wp2
          go_ret
          exact ⟨by first | rfl | (simp; done) | (simp [*]; done), by repeat (first | exact Drawn0.refl _ | apply Drawn0.step)⟩
        · rw [if_neg c10] at H
          have c10b0 : decide ((l0.length : Int) < (l1.length : Int)) = false := decide_eq_false c10
          have c10b1 : decide (l0.length < l1.length) = false := decide_eq_false (fun h => c10 (Int.ofNat_lt.mpr h))
          clear c10
          obtain rfl := Option.some.inj H
          go_wp2
          go_ret
          exact ⟨by first | rfl | (simp; done) | (simp [*]; done), by repeat (first | exact Drawn0.refl _ | apply Drawn0.step)⟩
end Go.Proofs.YtagkhoeidjlahaaDoor.G
namespace Go.Proofs.YtagkhoeidjlahaaDoor.G
open Go.RowKit Go.Proofs.YtagkhoeidjlahaaDoorW.PrintWords Go.Proofs.YtagkhoeidjlahaaDoorW.PrintLast Go.Proofs.YtagkhoeidjlahaaDoorW.PrintMore
attribute [local go_sem] max2_int min2_int max_two min_two max_three min_three max_four min_four
set_option linter.unusedVariables false
set_option linter.unusedSimpArgs false
def position_Compare.f (k : Nat) (l0 : List Int) (l1 : List Int) : Option (Int) := (slices_Compare_int_int.f k l0 l1).bind fun t395 => (some t395)
theorem position_Compare.mono : ∀ a0 a1 k, LeO (position_Compare.f k a0 a1) (position_Compare.f (k + 1) a0 a1) := by
  intro a0 a1 k
  unfold position_Compare.f
  repeat' first
      | (with_reducible exact slices_Compare_int_int.mono _ _ _)
      | (with_reducible exact LeO.refl _)
      | (with_reducible exact LeO.none _)
      | (with_reducible refine LeO.ite ?_ ?_)
      | (with_reducible refine LeO.bind ?_ (fun _ => ?_))
      | exact slices_Compare_int_int.mono _ _ _
      | exact LeO.none _
      | refine LeO.ite ?_ ?_
      | refine LeO.bind ?_ (fun _ => ?_)
set_option maxHeartbeats 8000000 in
set_option maxRecDepth 100000 in
theorem position_Compare.calls (k : Nat) (A0 : Option Addr) (c0 : Nat) (l0 : List Int) (A1 : Option Addr) (c1 : Nat) (l1 : List Int) (r : Int) (w : World) (hr0 : Kd.C (Kd.int .i64) w A0 l0.length l0) (hc0 : l0.length ≤ c0) (hr1 : Kd.C (Kd.int .i64) w A1 l1.length l1) (hc1 : l1.length ≤ c1) (h : position_Compare.f k l0 l1 = some r) :
    Calls Tryd.prog 32 #[.slice A0 l0.length c0, .slice A1 l1.length c1] w fun e w' => e = .returned (.int .i64 r) ∧ Drawn0 w w' := by
  have HR0 := Aside0.mk hr0
  have HC0 := Aside0.mk hc0
  clear hr0 hc0
  have HR1 := Aside0.mk hr1
  have HC1 := Aside0.mk hc1
  clear hr1 hc1
  have H : ((slices_Compare_int_int.f k l0 l1).bind fun t395 => (some t395)) = some r := h
  clear h
  replace H := Option.bind_eq_some_iff.mp H
  obtain ⟨t395, A30, H⟩ := H
  replace H : (some t395) = some r := H
  have A3 := Aside0.mk A30
  clear A30
  obtain rfl := Option.some.inj H
  go_enter Tryd.func32, Tryd.ntmps32
  go_wp2_with (first | ((with_reducible refine gate_callee (f := 70) rfl ?_); refine goesL_ (some 7) rfl rfl Tryd.func70 (by kernel_rfl) rfl #[.slice A0 l0.length c0, .slice A1 l1.length c1] rfl (by (try simp only [List.map_toArray, List.map_cons, List.map_nil]); first | done | rfl | (simp only [List.length_drop, List.length_take]; rfl)) ?_; (with_reducible refine (slices_Compare_int_int.calls k _ _ l0 _ _ l1 t395 _ ?side1 ?side2 ?side3 ?side4 A3.out).mono ?_); (case side1 => repeat (first | exact HR0.out | (with_reducible refine Kd.C_alloc ?_ _) | (with_reducible refine Kd.C_drewN ?_ _) | (with_reducible refine Kd.C_drew ?_))); (case side2 => exact HC0.out); (case side3 => repeat (first | exact HR1.out | (with_reducible refine Kd.C_alloc ?_ _) | (with_reducible refine Kd.C_drewN ?_ _) | (with_reducible refine Kd.C_drew ?_))); (case side4 => exact HC1.out); rintro e w' ⟨rfl, ⟨nd, rfl⟩⟩; refine ⟨_, rfl, ?_⟩))
  go_ret
  exact ⟨by first | rfl | (simp; done) | (simp [*]; done), by repeat (first | exact Drawn0.refl _ | apply Drawn0.step)⟩
end Go.Proofs.YtagkhoeidjlahaaDoor.G
namespace Go.Proofs.YtagkhoeidjlahaaDoor.G
open Go.RowKit Go.Proofs.YtagkhoeidjlahaaDoorW.PrintWords Go.Proofs.YtagkhoeidjlahaaDoorW.PrintLast Go.Proofs.YtagkhoeidjlahaaDoorW.PrintMore
attribute [local go_sem] max2_int min2_int max_two min_two max_three min_three max_four min_four
set_option linter.unusedVariables false
set_option linter.unusedSimpArgs false
section pod
def bsl (k : Nat) (xs : List (List Int)) (pos : List Int) : Nat → Int → Int → Option Int
  | 0, _, _ => none
  | q + 1, i, j => if i < j then (position_Compare.f k (rd_L5 xs ((i + j) / 2)) pos).bind fun c => if c < 0 then bsl k xs pos q ((i + j) / 2 + 1) j else bsl k xs pos q i ((i + j) / 2) else some i
def bsf (k : Nat) (xs : List (List Int)) (pos : List Int) : Option (Int × Bool) := if xs.length < 17592186044416 then (bsl k xs pos k 0 (xs.length : Int)).bind fun i => if i < (xs.length : Int) then (position_Compare.f k (rd_L5 xs i) pos).bind fun c => some (i, c == 0) else some (i, false) else none
set_option maxHeartbeats 4000000 in
set_option maxRecDepth 100000 in
theorem bsf_calls (k : Nat) (A : Option Addr) (c : Nat) (xs : List (List Int)) (A1 : Option Addr) (c1 : Nat) (l1 : List Int) (w : World) (hC : Kd.C (Kd.slice 3 (Kd.int .i64)) w A xs.length xs) (hc : xs.length ≤ c) (hC1 : Kd.C (Kd.int .i64) w A1 l1.length l1) (hc1 : l1.length ≤ c1) (i : Int) (b : Bool) (h : bsf k xs l1 = some (i, b)) :
    Calls Tryd.prog 69 #[.slice A xs.length c, .slice A1 l1.length c1, .func (.func 32) #[] #[]] w fun e w' => e = .returned (.tuple #[.int .i64 i, .bool b]) ∧ Below w.heap.size w w' := by
  unfold bsf at h
  split at h
  case isFalse => simp at h
  rename_i hlen
  obtain ⟨i1, h1, h2⟩ := Option.bind_eq_some_iff.mp h
  have HR := Aside0.mk hC
  have HC := Aside0.mk hc
  have HR1 := Aside0.mk hC1
  have HC1 := Aside0.mk hc1
  have H1 := Aside0.mk h1
  have H2 := Aside0.mk h2
  have hm := hC.2.1
  clear hC hc hC1 hc1 h1 h2 h
  go_enter Tryd.func69, Tryd.ntmps69
  go_wp2_with fail
  go_loopg [9, 10] k (fun kq v9 v10 wr => ∃ (x y : Int), v9 = .int .i64 x ∧ v10 = .int .i64 y ∧ Aside0 (bsl k xs l1 kq x y = some i1) ∧ Aside0 (0 ≤ x ∧ x ≤ y ∧ y ≤ xs.length) ∧ Aside0 (Below w.heap.size w wr))
  case atStart => exact ⟨0, _, rfl, rfl, H1, ⟨by omega, by omega, by omega⟩, ⟨Below.refl _ _⟩⟩
  case round =>
    obtain ⟨x, y, rfl, rfl, HA, HL, HB⟩ := hrel
    clear H1
    cases gk with
    | zero => exact absurd HA.out (by simp [bsl])
    | succ k1 =>
      have H := HA.out
      clear HA
      simp only [bsl] at H
      have hl := HL.out
      by_cases hxy : x < y
      · rw [if_pos hxy] at H
        obtain ⟨cv, hcv, H⟩ := Option.bind_eq_some_iff.mp H
        have hd1 : decide (x < y) = true := decide_eq_true hxy
        obtain ⟨ad, Ae, ce, e, hxe, hle, hie⟩ := at_L5 (Kd.C_below HR.out HB.out) ((x + y) / 2) (by omega) (by omega)
        subst e
        have p1 : decide ((x + y) / 2 < (xs.length : Int)) = true := decide_eq_true (by omega)
        have p2 : decide (0 ≤ (x + y) / 2) = true := decide_eq_true (by omega)
        go_wp2_with fail
        refine (position_Compare.calls k Ae ce _ A1 c1 l1 cv _ hie hle (Kd.C_below HR1.out HB.out) HC1.out hcv).mono ?_
        rintro e w2 ⟨rfl, hdr⟩
        have HB2 := Aside0.mk (below_step HB.out hdr.below)
        by_cases hcv0 : cv < 0
        · have hd2 : decide (cv < 0) = true := decide_eq_true hcv0
          rw [if_pos hcv0] at H
          go_wp2
          go_roundg k1
          case measure => omega
          case rel => exact ⟨_, _, rfl, rfl, ⟨H⟩, ⟨by omega, by omega, by omega⟩, HB2⟩
        · have hd2 : decide (cv < 0) = false := decide_eq_false hcv0
          rw [if_neg hcv0] at H
          go_wp2
          go_roundg k1
          case measure => omega
          case rel => exact ⟨_, _, rfl, rfl, ⟨H⟩, ⟨by omega, by omega, by omega⟩, HB2⟩
      · rw [if_neg hxy] at H
        have hd1 : decide (x < y) = false := decide_eq_false hxy
        obtain rfl := Option.some.inj H
        by_cases hx : x < (xs.length : Int)
        · have hd2 : decide (x < (xs.length : Int)) = true := decide_eq_true hx
          have h2 := H2.out
          rw [if_pos hx] at h2
          obtain ⟨cv, hcv, h2⟩ := Option.bind_eq_some_iff.mp h2
          simp only [Option.some.injEq, Prod.mk.injEq] at h2
          obtain ⟨rfl, rfl⟩ := h2
          obtain ⟨ad, Ae, ce, e, hxe, hle, hie⟩ := at_L5 (Kd.C_below HR.out HB.out) x (by omega) (by omega)
          subst e
          have p2 : decide (0 ≤ x) = true := decide_eq_true (by omega)
          go_wp2_with fail
          refine (position_Compare.calls k Ae ce _ A1 c1 l1 cv _ hie hle (Kd.C_below HR1.out HB.out) HC1.out hcv).mono ?_
          rintro e w2 ⟨rfl, hdr⟩
          have HB2 := Aside0.mk (below_step HB.out hdr.below)
          go_wp2
          go_ret2
          exact ⟨rfl, HB2.out⟩
        · have hd2 : decide (x < (xs.length : Int)) = false := decide_eq_false hx
          have h2 := H2.out
          rw [if_neg hx] at h2
          simp at h2
          obtain ⟨rfl, rfl⟩ := h2
          go_wp2
          go_ret2
          exact ⟨rfl, HB.out⟩
theorem bsl.mono (k : Nat) (xs : List (List Int)) (pos : List Int) : ∀ (q : Nat) (i j : Int), LeO (bsl k xs pos q i j) (bsl (k + 1) xs pos (q + 1) i j) := by
  intro q
  induction q with
  | zero => intro i j r h; simp [bsl] at h
  | succ q ih => intro i j; rw [bsl, bsl]; exact LeO.ite (LeO.bind (position_Compare.mono _ _ _) fun c => LeO.ite (ih _ _) (ih _ _)) (LeO.refl _)
theorem bsf.mono (k : Nat) (xs : List (List Int)) (pos : List Int) : LeO (bsf k xs pos) (bsf (k + 1) xs pos) :=
  LeO.ite (LeO.bind (bsl.mono _ _ _ _ _ _) fun i => LeO.ite (LeO.bind (position_Compare.mono _ _ _) fun _ => LeO.refl _) (LeO.refl _)) (LeO.refl _)
end pod
end Go.Proofs.YtagkhoeidjlahaaDoor.G
namespace Go.Proofs.YtagkhoeidjlahaaDoor.G
open Go.RowKit Go.Proofs.YtagkhoeidjlahaaDoorW.PrintWords Go.Proofs.YtagkhoeidjlahaaDoorW.PrintLast Go.Proofs.YtagkhoeidjlahaaDoorW.PrintMore
attribute [local go_sem] max2_int min2_int max_two min_two max_three min_three max_four min_four
set_option linter.unusedVariables false
set_option linter.unusedSimpArgs false
def position_Index.f (k : Nat) (a0_0 : Int) (a0_1 : ByteArray) (a0_2 : Int) (l0_3 : List (S36)) (l1 : List Int) : Option (Int × Int) := (position_All.f k a0_0 a0_1 a0_2 l0_3).bind fun b => if b.2 = 0 then (bsf k b.1 l1).bind fun r => if r.2 = true then some (r.1, 0) else some (0, 2) else some (0, b.2)
theorem position_Index.mono : ∀ a0 a1 a2 a3 a4 k, LeO (position_Index.f k a0 a1 a2 a3 a4) (position_Index.f (k + 1) a0 a1 a2 a3 a4) := fun a0 a1 a2 a3 a4 k => LeO.bind (position_All.mono _ _ _ _ _) fun _ => LeO.ite (LeO.bind (bsf.mono _ _ _) fun _ => LeO.refl _) (LeO.refl _)
theorem position_Index.calls (k : Nat) (a0_0 : Int) (a0_1 : ByteArray) (a0_2 : Int) (A0_3 : Option Addr) (c0_3 : Nat) (l0_3 : List (S36)) (A1 : Option Addr) (c1 : Nat) (l1 : List Int) (r1 : Int) (r2 : Int) (w : World) (hr0_3 : Kd.C k36 w A0_3 l0_3.length l0_3) (hc0_3 : l0_3.length ≤ c0_3) (hr1 : Kd.C (Kd.int .i64) w A1 l1.length l1) (hc1 : l1.length ≤ c1) (h : position_Index.f k a0_0 a0_1 a0_2 l0_3 l1 = some (r1, r2)) :
    Calls Tryd.prog 27 #[.agg #[.int .i64 a0_0, .string a0_1, .int .i64 a0_2, .slice A0_3 l0_3.length c0_3], .slice A1 l1.length c1] w fun e w' => e = .returned (.tuple #[.int .i64 r1, .int .i64 r2]) ∧ Below w.heap.size w w' := by
  have hu36 := Tryd.underlying36
  obtain ⟨⟨xs, e1⟩, hv, h⟩ := Option.bind_eq_some_iff.mp h
  have hm := hr0_3.2.1
  have HV := Aside0.mk hv
  have HR := Aside0.mk hr0_3
  have HC := Aside0.mk hc0_3
  have HR1 := Aside0.mk hr1
  have HC1 := Aside0.mk hc1
  have HB := Aside0.mk (below_alloc (Below.refl w.heap.size w) (.cells #[.int .i64 a0_0, .string a0_1, .int .i64 a0_2, .slice A0_3 l0_3.length c0_3] 36))
  clear hr0_3 hc0_3 hv hr1 hc1
  have HH := Aside0.mk h
  clear h
  go_enter Tryd.func27, Tryd.ntmps27
  go_wp2_with fail
  refine (position_All.calls k a0_0 a0_1 a0_2 A0_3 c0_3 l0_3 xs e1 _ (Kd.C_alloc HR.out _) HC.out HV.out).mono ?_
  rintro e w2 ⟨v0, rfl, hN, hb⟩
  obtain ⟨Ax, cx, rfl⟩ := Kd.N_slice hN
  have HN := Aside0.mk (Kd.N_reads' hN).2
  have HB2 := Aside0.mk (below_step HB.out hb)
  clear hb HB hN
  by_cases he : e1 = 0
  · subst he
    have h := HH.out
    rw [if_pos rfl] at h
    obtain ⟨⟨i, b⟩, hb, h⟩ := Option.bind_eq_some_iff.mp h
    have HBS := Aside0.mk hb
    clear hb
    go_wp2_with fail
    refine (bsf_calls k Ax cx xs A1 c1 l1 w2 HN.out.2 HN.out.1 (Kd.C_below HR1.out HB2.out) HC1.out i b HBS.out).mono ?_
    rintro e w3 ⟨rfl, hb3⟩
    have HB3 := Aside0.mk (below_step HB2.out hb3)
    clear hb3
    cases b with
    | false =>
      simp at h
      obtain ⟨rfl, rfl⟩ := h
      go_wp2
      go_ret2
      exact ⟨rfl, HB3.out⟩
    | true =>
      simp at h
      obtain ⟨rfl, rfl⟩ := h
      go_wp2
      go_ret2
      exact ⟨rfl, HB3.out⟩
  · have h := HH.out
    rw [if_neg he] at h
    simp at h
    obtain ⟨rfl, rfl⟩ := h
    have he2 : (e1 == 0) = false := beq_eq_false_iff_ne.mpr he
    have he3 : (e1 != 0) = true := bne_iff_ne.mpr he
    go_wp2
    go_ret2
    exact ⟨rfl, HB2.out⟩
end Go.Proofs.YtagkhoeidjlahaaDoor.G
namespace Go.Proofs.YtagkhoeidjlahaaDoor.G
open Go.RowKit Go.Proofs.YtagkhoeidjlahaaDoorW.PrintWords Go.Proofs.YtagkhoeidjlahaaDoorW.PrintLast Go.Proofs.YtagkhoeidjlahaaDoorW.PrintMore
attribute [local go_sem] max2_int min2_int max_two min_two max_three min_three max_four min_four
set_option linter.unusedVariables false
set_option linter.unusedSimpArgs false
def position_At.f (k : Nat) (a0_0 : Int) (a0_1 : ByteArray) (a0_2 : Int) (l0_3 : List (S36)) (a1 : Int) : Option (List Int × Int) := (position_All.f k a0_0 a0_1 a0_2 l0_3).bind fun bt397 => (if bt397.2 = 0 then (if a1 < 0 then (some (([] : List Int), 2)) else (if a1 ≥ (bt397.1.length : Int) then (some (([] : List Int), 2)) else (if 0 ≤ a1 then (if a1 < (bt397.1.length : Int) then (some (rd_L5 bt397.1 a1, 0)) else (none)) else (none)))) else (some (([] : List Int), bt397.2)))
theorem position_At.mono : ∀ a0 a1 a2 a3 a4 k, LeO (position_At.f k a0 a1 a2 a3 a4) (position_At.f (k + 1) a0 a1 a2 a3 a4) := by
  intro a0 a1 a2 a3 a4 k
  unfold position_At.f
  repeat' first
      | (with_reducible exact position_All.mono _ _ _ _ _)
      | (with_reducible exact LeO.refl _)
      | (with_reducible exact LeO.none _)
      | (with_reducible refine LeO.ite ?_ ?_)
      | (with_reducible refine LeO.bind ?_ (fun _ => ?_))
      | exact position_All.mono _ _ _ _ _
      | exact LeO.none _
      | refine LeO.ite ?_ ?_
      | refine LeO.bind ?_ (fun _ => ?_)
set_option maxHeartbeats 8000000 in
set_option maxRecDepth 100000 in
theorem position_At.calls (k : Nat) (a0_0 : Int) (a0_1 : ByteArray) (a0_2 : Int) (A0_3 : Option Addr) (c0_3 : Nat) (l0_3 : List (S36)) (a1 : Int) (r1 : List Int) (r2 : Int) (w : World) (hr0_3 : Kd.C k36 w A0_3 l0_3.length l0_3) (hc0_3 : l0_3.length ≤ c0_3) (h : position_At.f k a0_0 a0_1 a0_2 l0_3 a1 = some (r1, r2)) :
    Calls Tryd.prog 29 #[.agg #[.int .i64 a0_0, .string a0_1, .int .i64 a0_2, .slice A0_3 l0_3.length c0_3], .int .i64 a1] w fun e w' => ∃ v0_ : Value, e = .returned (.tuple #[v0_, .int .i64 r2]) ∧ Kd.V (Kd.int .i64) 3 w' w.heap.size (fun k_ => (w.heap.size ≤ k_)) v0_ r1 ∧ Below w.heap.size w w' := by
  have hu36 := Tryd.underlying36
  have HR0_3 := Aside0.mk hr0_3
  have HC0_3 := Aside0.mk hc0_3
  clear hr0_3 hc0_3
  have HB := Aside0.mk (Below.refl w.heap.size w)
  have H : ((position_All.f k a0_0 a0_1 a0_2 l0_3).bind fun bt397 => (if bt397.2 = 0 then (if a1 < 0 then (some (([] : List Int), 2)) else (if a1 ≥ (bt397.1.length : Int) then (some (([] : List Int), 2)) else (if 0 ≤ a1 then (if a1 < (bt397.1.length : Int) then (some (rd_L5 bt397.1 a1, 0)) else (none)) else (none)))) else (some (([] : List Int), bt397.2)))) = some (r1, r2) := h
  clear h
  replace H := Option.bind_eq_some_iff.mp H
  obtain ⟨⟨t397, t400⟩, A30, H⟩ := H
  replace H : (if t400 = 0 then (if a1 < 0 then (some (([] : List Int), 2)) else (if a1 ≥ (t397.length : Int) then (some (([] : List Int), 2)) else (if 0 ≤ a1 then (if a1 < (t397.length : Int) then (some (rd_L5 t397 a1, 0)) else (none)) else (none)))) else (some (([] : List Int), t400))) = some (r1, r2) := H
  have A3 := Aside0.mk A30
  clear A30
  by_cases c4 : t400 = 0
  · rw [if_pos c4] at H
    have c4b0 : (t400 == 0) = true := beq_iff_eq.mpr c4
    have c4b1 : (t400 != 0) = false := bne_eq_false_iff_eq.mpr c4
    clear c4
    by_cases c5 : a1 < 0
    · rw [if_pos c5] at H
      have c5b0 : decide (a1 < 0) = true := decide_eq_true c5
      clear c5
      simp only [Option.some.injEq, Prod.mk.injEq] at H
      obtain ⟨rfl, rfl⟩ := H
      go_enter Tryd.func29, Tryd.ntmps29
      go_wp2_with (first | ((with_reducible refine gate_dst (N := 2) rfl ?_); (try (refine gate_guard (by rfl) ?_; dsimp only)); refine box_event ?hg (N := 2) ?hd (cs := #[.int .i64 a0_0, .string a0_1, .int .i64 a0_2, .slice A0_3 l0_3.length c0_3]) (t := 36) ?hr ?_; (case hd => rfl); (case hg => rfl); (case hr => first | (go_simp; done) | (go_simp; rfl)); intro gb396 hg w6 hbox hb; have n0_ := Aside0.mk (below_step (by repeat (first | (with_reducible first | exact HB.out | apply below_alloc | apply pw_below_drewN | apply below_drew1) | exact HB.out)) hb); have n1_ := Aside0.mk (hbox); have n2_ := Aside0.mk ((by rw [hg]; exact (below_size (by repeat (first | (with_reducible first | exact HB.out | apply below_alloc | apply pw_below_drewN | apply below_drew1) | exact HB.out))) : w.heap.size ≤ gb396)); have n3_ := Aside0.mk ((by rw [hg]; exact (below_size (by repeat (first | (with_reducible first | exact HB.out | apply below_alloc | apply pw_below_drewN | apply below_drew1) | exact HB.out))) : w.heap.size ≤ gb396)); clear HB; have HB := n0_; have BK396 := n1_; have GW396 := n2_; have GE396 := n3_; clear n0_ n1_ n2_ n3_; clear hb hbox hg; have hcz7_0 : w6.cell? ⟨gb396, 0, none⟩ = some (.int .i64 a0_0) := (blk_cell BK396.out 0).trans rfl; have hcz7_1 : w6.cell? ⟨gb396, 1, none⟩ = some (.string a0_1) := (blk_cell BK396.out 1).trans rfl; have hcz7_2 : w6.cell? ⟨gb396, 2, none⟩ = some (.int .i64 a0_2) := (blk_cell BK396.out 2).trans rfl; have hcz7_3 : w6.cell? ⟨gb396, 3, none⟩ = some (.slice A0_3 l0_3.length c0_3) := (blk_cell BK396.out 3).trans rfl; have hfz7_0 := blk_frozen BK396.out 0; have hfz7_1 := blk_frozen BK396.out 1; have hfz7_2 := blk_frozen BK396.out 2; have hfz7_3 := blk_frozen BK396.out 3) | ((with_reducible refine gate_callee (f := 37) rfl ?_); refine goesL_ (some 10) rfl rfl Tryd.func37 (by kernel_rfl) rfl #[.agg #[.int .i64 a0_0, .string a0_1, .int .i64 a0_2, .slice A0_3 l0_3.length c0_3]] rfl (by (try simp only [List.map_toArray, List.map_cons, List.map_nil]); first | done | rfl | (simp only [List.length_drop, List.length_take]; rfl)) ?_; (with_reducible refine (position_All.calls k a0_0 a0_1 a0_2 _ _ l0_3 t397 t400 _ ?side1 ?side2 A3.out).mono ?_); (case side1 => repeat (first | exact (Kd.C_below HR0_3.out HB.out) | (with_reducible refine Kd.C_alloc ?_ _) | (with_reducible refine Kd.C_drewN ?_ _) | (with_reducible refine Kd.C_drew ?_))); (case side2 => exact HC0_3.out); rintro e w8 ⟨v398, rfl, ho0, hb⟩; refine ⟨_, rfl, ?_⟩; have n0_ := Aside0.mk (Kd.N_lower (Kd.N_mono (ok' := fun k_ => (w.heap.size ≤ k_) ∧ k_ ≠ gb396) ho0 (fun k_ hk_ => ⟨(Nat.le_trans (below_size (by repeat (first | (with_reducible first | exact HB.out | apply below_alloc | apply pw_below_drewN | apply below_drew1 | refine below_set ?_ GE396.out) | exact HB.out))) hk_), (Kd.freshB (g := gb396) (o := .cells #[.int .i64 a0_0, .string a0_1, .int .i64 a0_2, .slice A0_3 l0_3.length c0_3] 36 (0, 0)) (by (with_reducible repeat (first | refine blk_drewN ?_ _ | refine blk_drew ?_ | refine blk_alloc ?_ _)); exact BK396.out) k_ hk_)⟩)) (below_size (by repeat (first | (with_reducible first | exact HB.out | apply below_alloc | apply pw_below_drewN | apply below_drew1 | refine below_set ?_ GE396.out) | exact HB.out)))); have n1_ := Aside0.mk (blk_below (g := gb396) (o := .cells #[.int .i64 a0_0, .string a0_1, .int .i64 a0_2, .slice A0_3 l0_3.length c0_3] 36 (0, 0)) (by (with_reducible repeat (first | refine blk_drewN ?_ _ | refine blk_drew ?_ | refine blk_alloc ?_ _)); exact BK396.out) hb); have n2_ := Aside0.mk (below_step (by repeat (first | (with_reducible first | exact HB.out | apply below_alloc | apply pw_below_drewN | apply below_drew1 | refine below_set ?_ GE396.out) | exact HB.out)) hb); clear BK396; clear HB; have HO399 := n0_; have BK396 := n1_; have HB := n2_; clear n0_ n1_ n2_; (try clear hb); (try clear hb2); (try clear hk); (try clear hi); (try clear ho0)))
      go_ret2
      exact ⟨_, by first | rfl | (simp [errW_none, errW_some] <;> rfl) | (simp [*, errW_none, errW_some] <;> rfl), Kd.V_nil _ _ _ _ _, by repeat (first | (with_reducible first | exact HB.out | apply below_alloc | apply pw_below_drewN | apply below_drew1 | refine below_set ?_ GE396.out) | exact HB.out)⟩
    · rw [if_neg c5] at H
      have c5b0 : decide (a1 < 0) = false := decide_eq_false c5
      clear c5
      by_cases c9 : a1 ≥ (t397.length : Int)
      · rw [if_pos c9] at H
        have c9b0 : decide ((t397.length : Int) ≤ a1) = true := decide_eq_true c9
        clear c9
        simp only [Option.some.injEq, Prod.mk.injEq] at H
        obtain ⟨rfl, rfl⟩ := H
        go_enter Tryd.func29, Tryd.ntmps29
        go_wp2_with (first | ((with_reducible refine gate_dst (N := 2) rfl ?_); (try (refine gate_guard (by rfl) ?_; dsimp only)); refine box_event ?hg (N := 2) ?hd (cs := #[.int .i64 a0_0, .string a0_1, .int .i64 a0_2, .slice A0_3 l0_3.length c0_3]) (t := 36) ?hr ?_; (case hd => rfl); (case hg => rfl); (case hr => first | (go_simp; done) | (go_simp; rfl)); intro gb396 hg w10 hbox hb; have n0_ := Aside0.mk (below_step (by repeat (first | (with_reducible first | exact HB.out | apply below_alloc | apply pw_below_drewN | apply below_drew1) | exact HB.out)) hb); have n1_ := Aside0.mk (hbox); have n2_ := Aside0.mk ((by rw [hg]; exact (below_size (by repeat (first | (with_reducible first | exact HB.out | apply below_alloc | apply pw_below_drewN | apply below_drew1) | exact HB.out))) : w.heap.size ≤ gb396)); have n3_ := Aside0.mk ((by rw [hg]; exact (below_size (by repeat (first | (with_reducible first | exact HB.out | apply below_alloc | apply pw_below_drewN | apply below_drew1) | exact HB.out))) : w.heap.size ≤ gb396)); clear HB; have HB := n0_; have BK396 := n1_; have GW396 := n2_; have GE396 := n3_; clear n0_ n1_ n2_ n3_; clear hb hbox hg; have hcz11_0 : w10.cell? ⟨gb396, 0, none⟩ = some (.int .i64 a0_0) := (blk_cell BK396.out 0).trans rfl; have hcz11_1 : w10.cell? ⟨gb396, 1, none⟩ = some (.string a0_1) := (blk_cell BK396.out 1).trans rfl; have hcz11_2 : w10.cell? ⟨gb396, 2, none⟩ = some (.int .i64 a0_2) := (blk_cell BK396.out 2).trans rfl; have hcz11_3 : w10.cell? ⟨gb396, 3, none⟩ = some (.slice A0_3 l0_3.length c0_3) := (blk_cell BK396.out 3).trans rfl; have hfz11_0 := blk_frozen BK396.out 0; have hfz11_1 := blk_frozen BK396.out 1; have hfz11_2 := blk_frozen BK396.out 2; have hfz11_3 := blk_frozen BK396.out 3) | ((with_reducible refine gate_callee (f := 37) rfl ?_); refine goesL_ (some 10) rfl rfl Tryd.func37 (by kernel_rfl) rfl #[.agg #[.int .i64 a0_0, .string a0_1, .int .i64 a0_2, .slice A0_3 l0_3.length c0_3]] rfl (by (try simp only [List.map_toArray, List.map_cons, List.map_nil]); first | done | rfl | (simp only [List.length_drop, List.length_take]; rfl)) ?_; (with_reducible refine (position_All.calls k a0_0 a0_1 a0_2 _ _ l0_3 t397 t400 _ ?side1 ?side2 A3.out).mono ?_); (case side1 => repeat (first | exact (Kd.C_below HR0_3.out HB.out) | (with_reducible refine Kd.C_alloc ?_ _) | (with_reducible refine Kd.C_drewN ?_ _) | (with_reducible refine Kd.C_drew ?_))); (case side2 => exact HC0_3.out); rintro e w12 ⟨v398, rfl, ho0, hb⟩; refine ⟨_, rfl, ?_⟩; have n0_ := Aside0.mk (Kd.N_lower (Kd.N_mono (ok' := fun k_ => (w.heap.size ≤ k_) ∧ k_ ≠ gb396) ho0 (fun k_ hk_ => ⟨(Nat.le_trans (below_size (by repeat (first | (with_reducible first | exact HB.out | apply below_alloc | apply pw_below_drewN | apply below_drew1 | refine below_set ?_ GE396.out) | exact HB.out))) hk_), (Kd.freshB (g := gb396) (o := .cells #[.int .i64 a0_0, .string a0_1, .int .i64 a0_2, .slice A0_3 l0_3.length c0_3] 36 (0, 0)) (by (with_reducible repeat (first | refine blk_drewN ?_ _ | refine blk_drew ?_ | refine blk_alloc ?_ _)); exact BK396.out) k_ hk_)⟩)) (below_size (by repeat (first | (with_reducible first | exact HB.out | apply below_alloc | apply pw_below_drewN | apply below_drew1 | refine below_set ?_ GE396.out) | exact HB.out)))); have n1_ := Aside0.mk (blk_below (g := gb396) (o := .cells #[.int .i64 a0_0, .string a0_1, .int .i64 a0_2, .slice A0_3 l0_3.length c0_3] 36 (0, 0)) (by (with_reducible repeat (first | refine blk_drewN ?_ _ | refine blk_drew ?_ | refine blk_alloc ?_ _)); exact BK396.out) hb); have n2_ := Aside0.mk (below_step (by repeat (first | (with_reducible first | exact HB.out | apply below_alloc | apply pw_below_drewN | apply below_drew1 | refine below_set ?_ GE396.out) | exact HB.out)) hb); clear BK396; clear HB; have HO399 := n0_; have BK396 := n1_; have HB := n2_; clear n0_ n1_ n2_; (try clear hb); (try clear hb2); (try clear hk); (try clear hi); (try clear ho0); obtain ⟨Ao13, co13, eo13⟩ := Kd.N_slice HO399.out; subst eo13))
        go_ret2
        exact ⟨_, by first | rfl | (simp [errW_none, errW_some] <;> rfl) | (simp [*, errW_none, errW_some] <;> rfl), Kd.V_nil _ _ _ _ _, by repeat (first | (with_reducible first | exact HB.out | apply below_alloc | apply pw_below_drewN | apply below_drew1 | refine below_set ?_ GE396.out) | exact HB.out)⟩
      · rw [if_neg c9] at H
        have c9b0 : decide ((t397.length : Int) ≤ a1) = false := decide_eq_false c9
        clear c9
        by_cases c14 : 0 ≤ a1
        · rw [if_pos c14] at H
          have c14b0 : decide (0 ≤ a1) = true := decide_eq_true c14
          clear c14
          by_cases c15 : a1 < (t397.length : Int)
          · rw [if_pos c15] at H
            have c15b0 : decide (a1 < (t397.length : Int)) = true := decide_eq_true c15
            clear c15
            simp only [Option.some.injEq, Prod.mk.injEq] at H
            obtain ⟨rfl, rfl⟩ := H
            go_enter Tryd.func29, Tryd.ntmps29
            go_wp2_with (first | ((with_reducible refine gate_dst (N := 2) rfl ?_); (try (refine gate_guard (by rfl) ?_; dsimp only)); refine box_event ?hg (N := 2) ?hd (cs := #[.int .i64 a0_0, .string a0_1, .int .i64 a0_2, .slice A0_3 l0_3.length c0_3]) (t := 36) ?hr ?_; (case hd => rfl); (case hg => rfl); (case hr => first | (go_simp; done) | (go_simp; rfl)); intro gb396 hg w16 hbox hb; have n0_ := Aside0.mk (below_step (by repeat (first | (with_reducible first | exact HB.out | apply below_alloc | apply pw_below_drewN | apply below_drew1) | exact HB.out)) hb); have n1_ := Aside0.mk (hbox); have n2_ := Aside0.mk ((by rw [hg]; exact (below_size (by repeat (first | (with_reducible first | exact HB.out | apply below_alloc | apply pw_below_drewN | apply below_drew1) | exact HB.out))) : w.heap.size ≤ gb396)); have n3_ := Aside0.mk ((by rw [hg]; exact (below_size (by repeat (first | (with_reducible first | exact HB.out | apply below_alloc | apply pw_below_drewN | apply below_drew1) | exact HB.out))) : w.heap.size ≤ gb396)); clear HB; have HB := n0_; have BK396 := n1_; have GW396 := n2_; have GE396 := n3_; clear n0_ n1_ n2_ n3_; clear hb hbox hg; have hcz17_0 : w16.cell? ⟨gb396, 0, none⟩ = some (.int .i64 a0_0) := (blk_cell BK396.out 0).trans rfl; have hcz17_1 : w16.cell? ⟨gb396, 1, none⟩ = some (.string a0_1) := (blk_cell BK396.out 1).trans rfl; have hcz17_2 : w16.cell? ⟨gb396, 2, none⟩ = some (.int .i64 a0_2) := (blk_cell BK396.out 2).trans rfl; have hcz17_3 : w16.cell? ⟨gb396, 3, none⟩ = some (.slice A0_3 l0_3.length c0_3) := (blk_cell BK396.out 3).trans rfl; have hfz17_0 := blk_frozen BK396.out 0; have hfz17_1 := blk_frozen BK396.out 1; have hfz17_2 := blk_frozen BK396.out 2; have hfz17_3 := blk_frozen BK396.out 3) | ((with_reducible refine gate_callee (f := 37) rfl ?_); refine goesL_ (some 10) rfl rfl Tryd.func37 (by kernel_rfl) rfl #[.agg #[.int .i64 a0_0, .string a0_1, .int .i64 a0_2, .slice A0_3 l0_3.length c0_3]] rfl (by (try simp only [List.map_toArray, List.map_cons, List.map_nil]); first | done | rfl | (simp only [List.length_drop, List.length_take]; rfl)) ?_; (with_reducible refine (position_All.calls k a0_0 a0_1 a0_2 _ _ l0_3 t397 t400 _ ?side1 ?side2 A3.out).mono ?_); (case side1 => repeat (first | exact (Kd.C_below HR0_3.out HB.out) | (with_reducible refine Kd.C_alloc ?_ _) | (with_reducible refine Kd.C_drewN ?_ _) | (with_reducible refine Kd.C_drew ?_))); (case side2 => exact HC0_3.out); rintro e w18 ⟨v398, rfl, ho0, hb⟩; refine ⟨_, rfl, ?_⟩; have n0_ := Aside0.mk (Kd.N_lower (Kd.N_mono (ok' := fun k_ => (w.heap.size ≤ k_) ∧ k_ ≠ gb396) ho0 (fun k_ hk_ => ⟨(Nat.le_trans (below_size (by repeat (first | (with_reducible first | exact HB.out | apply below_alloc | apply pw_below_drewN | apply below_drew1 | refine below_set ?_ GE396.out) | exact HB.out))) hk_), (Kd.freshB (g := gb396) (o := .cells #[.int .i64 a0_0, .string a0_1, .int .i64 a0_2, .slice A0_3 l0_3.length c0_3] 36 (0, 0)) (by (with_reducible repeat (first | refine blk_drewN ?_ _ | refine blk_drew ?_ | refine blk_alloc ?_ _)); exact BK396.out) k_ hk_)⟩)) (below_size (by repeat (first | (with_reducible first | exact HB.out | apply below_alloc | apply pw_below_drewN | apply below_drew1 | refine below_set ?_ GE396.out) | exact HB.out)))); have n1_ := Aside0.mk (blk_below (g := gb396) (o := .cells #[.int .i64 a0_0, .string a0_1, .int .i64 a0_2, .slice A0_3 l0_3.length c0_3] 36 (0, 0)) (by (with_reducible repeat (first | refine blk_drewN ?_ _ | refine blk_drew ?_ | refine blk_alloc ?_ _)); exact BK396.out) hb); have n2_ := Aside0.mk (below_step (by repeat (first | (with_reducible first | exact HB.out | apply below_alloc | apply pw_below_drewN | apply below_drew1 | refine below_set ?_ GE396.out) | exact HB.out)) hb); clear BK396; clear HB; have HO399 := n0_; have BK396 := n1_; have HB := n2_; clear n0_ n1_ n2_; (try clear hb); (try clear hb2); (try clear hk); (try clear hi); (try clear ho0); obtain ⟨Ao19, co19, eo19⟩ := Kd.N_slice HO399.out; subst eo19; have p401 : 0 ≤ (a1 : Int) := of_decide_eq_true (by first | (with_reducible assumption) | assumption); have q401 : a1 < (t397.length : Int) := of_decide_eq_true (by first | (with_reducible assumption) | assumption); obtain ⟨ad401, A401_0, c401_0, e401, hx401_0, hl401_0, hi401_0⟩ := at_L5 (Kd.N_reads' HO399.out).2.2 a1 p401 q401; cases e401; obtain ⟨ce401, hce401, hMe401, hcc401⟩ := Kd.N_get HO399.out [] a1 p401 (by first | exact q401 | exact of_decide_eq_true (by first | (with_reducible assumption) | assumption) | (have e_ := (Kd.N_reads' HO399.out).1; omega)); obtain ⟨ua401_0, uc401_0, rfl, ul401_0, ge401_0⟩ := Kd.FK_slice_open hMe401; have hv401_0 := hcc401 0 _ rfl; rw [Nat.add_zero, show ((Kd.slice 3 (Kd.int .i64))).sz = 1 from rfl, Nat.mul_one] at hv401_0; replace hv401_0 := Option.some.inj (hv401_0.symm.trans hx401_0); injection hv401_0 with hva_ hvn_ hvc_; rw [hva_] at ge401_0; rw [hvc_] at ul401_0; have HL401_0 := Aside0.mk (show Kd.V (Kd.int .i64) 3 _ w.heap.size _ _ (rd_L5 t397 a1) from Kd.V_mk ul401_0 ge401_0); clear hva_ hvn_ hvc_ ge401_0 ul401_0; clear hcc401 hce401; have HR401_0 := Aside0.mk hi401_0; have HC401_0 := Aside0.mk hl401_0; clear hi401_0 hl401_0; replace p401 := eq_true p401; replace q401 := eq_true q401))
            go_ret2
            exact ⟨_, by first | rfl | (simp [errW_none, errW_some] <;> rfl) | (simp [*, errW_none, errW_some] <;> rfl), by (with_reducible repeat (first | apply Kd.V_alloc | apply Kd.V_drewN | apply Kd.V_drew)); exact Kd.V_mono HL401_0.out (fun _ hk => hk.1.1), by repeat (first | (with_reducible first | exact HB.out | apply below_alloc | apply pw_below_drewN | apply below_drew1 | refine below_set ?_ GE396.out) | exact HB.out)⟩
          · rw [if_neg c15] at H
            exact absurd H (by simp)
        · rw [if_neg c14] at H
          exact absurd H (by simp)
  · rw [if_neg c4] at H
    have c4b0 : (t400 == 0) = false := beq_eq_false_iff_ne.mpr c4
    have c4b1 : (t400 != 0) = true := bne_iff_ne.mpr c4
    simp only [Option.some.injEq, Prod.mk.injEq] at H
    obtain ⟨rfl, rfl⟩ := H
    go_enter Tryd.func29, Tryd.ntmps29
    go_wp2_with (first | ((with_reducible refine gate_dst (N := 2) rfl ?_); (try (refine gate_guard (by rfl) ?_; dsimp only)); refine box_event ?hg (N := 2) ?hd (cs := #[.int .i64 a0_0, .string a0_1, .int .i64 a0_2, .slice A0_3 l0_3.length c0_3]) (t := 36) ?hr ?_; (case hd => rfl); (case hg => rfl); (case hr => first | (go_simp; done) | (go_simp; rfl)); intro gb396 hg w20 hbox hb; have n0_ := Aside0.mk (below_step (by repeat (first | (with_reducible first | exact HB.out | apply below_alloc | apply pw_below_drewN | apply below_drew1) | exact HB.out)) hb); have n1_ := Aside0.mk (hbox); have n2_ := Aside0.mk ((by rw [hg]; exact (below_size (by repeat (first | (with_reducible first | exact HB.out | apply below_alloc | apply pw_below_drewN | apply below_drew1) | exact HB.out))) : w.heap.size ≤ gb396)); have n3_ := Aside0.mk ((by rw [hg]; exact (below_size (by repeat (first | (with_reducible first | exact HB.out | apply below_alloc | apply pw_below_drewN | apply below_drew1) | exact HB.out))) : w.heap.size ≤ gb396)); clear HB; have HB := n0_; have BK396 := n1_; have GW396 := n2_; have GE396 := n3_; clear n0_ n1_ n2_ n3_; clear hb hbox hg; have hcz21_0 : w20.cell? ⟨gb396, 0, none⟩ = some (.int .i64 a0_0) := (blk_cell BK396.out 0).trans rfl; have hcz21_1 : w20.cell? ⟨gb396, 1, none⟩ = some (.string a0_1) := (blk_cell BK396.out 1).trans rfl; have hcz21_2 : w20.cell? ⟨gb396, 2, none⟩ = some (.int .i64 a0_2) := (blk_cell BK396.out 2).trans rfl; have hcz21_3 : w20.cell? ⟨gb396, 3, none⟩ = some (.slice A0_3 l0_3.length c0_3) := (blk_cell BK396.out 3).trans rfl; have hfz21_0 := blk_frozen BK396.out 0; have hfz21_1 := blk_frozen BK396.out 1; have hfz21_2 := blk_frozen BK396.out 2; have hfz21_3 := blk_frozen BK396.out 3) | ((with_reducible refine gate_callee (f := 37) rfl ?_); refine goesL_ (some 10) rfl rfl Tryd.func37 (by kernel_rfl) rfl #[.agg #[.int .i64 a0_0, .string a0_1, .int .i64 a0_2, .slice A0_3 l0_3.length c0_3]] rfl (by (try simp only [List.map_toArray, List.map_cons, List.map_nil]); first | done | rfl | (simp only [List.length_drop, List.length_take]; rfl)) ?_; (with_reducible refine (position_All.calls k a0_0 a0_1 a0_2 _ _ l0_3 t397 t400 _ ?side1 ?side2 A3.out).mono ?_); (case side1 => repeat (first | exact (Kd.C_below HR0_3.out HB.out) | (with_reducible refine Kd.C_alloc ?_ _) | (with_reducible refine Kd.C_drewN ?_ _) | (with_reducible refine Kd.C_drew ?_))); (case side2 => exact HC0_3.out); rintro e w22 ⟨v398, rfl, ho0, hb⟩; refine ⟨_, rfl, ?_⟩; have n0_ := Aside0.mk (Kd.N_lower (Kd.N_mono (ok' := fun k_ => (w.heap.size ≤ k_) ∧ k_ ≠ gb396) ho0 (fun k_ hk_ => ⟨(Nat.le_trans (below_size (by repeat (first | (with_reducible first | exact HB.out | apply below_alloc | apply pw_below_drewN | apply below_drew1 | refine below_set ?_ GE396.out) | exact HB.out))) hk_), (Kd.freshB (g := gb396) (o := .cells #[.int .i64 a0_0, .string a0_1, .int .i64 a0_2, .slice A0_3 l0_3.length c0_3] 36 (0, 0)) (by (with_reducible repeat (first | refine blk_drewN ?_ _ | refine blk_drew ?_ | refine blk_alloc ?_ _)); exact BK396.out) k_ hk_)⟩)) (below_size (by repeat (first | (with_reducible first | exact HB.out | apply below_alloc | apply pw_below_drewN | apply below_drew1 | refine below_set ?_ GE396.out) | exact HB.out)))); have n1_ := Aside0.mk (blk_below (g := gb396) (o := .cells #[.int .i64 a0_0, .string a0_1, .int .i64 a0_2, .slice A0_3 l0_3.length c0_3] 36 (0, 0)) (by (with_reducible repeat (first | refine blk_drewN ?_ _ | refine blk_drew ?_ | refine blk_alloc ?_ _)); exact BK396.out) hb); have n2_ := Aside0.mk (below_step (by repeat (first | (with_reducible first | exact HB.out | apply below_alloc | apply pw_below_drewN | apply below_drew1 | refine below_set ?_ GE396.out) | exact HB.out)) hb); clear BK396; clear HB; have HO399 := n0_; have BK396 := n1_; have HB := n2_; clear n0_ n1_ n2_; (try clear hb); (try clear hb2); (try clear hk); (try clear hi); (try clear ho0)))
    go_ret2
    exact ⟨_, by first | rfl | (simp [errW_none, errW_some] <;> rfl) | (simp [*, errW_none, errW_some] <;> rfl), Kd.V_nil _ _ _ _ _, by repeat (first | (with_reducible first | exact HB.out | apply below_alloc | apply pw_below_drewN | apply below_drew1 | refine below_set ?_ GE396.out) | exact HB.out)⟩
end Go.Proofs.YtagkhoeidjlahaaDoor.G
