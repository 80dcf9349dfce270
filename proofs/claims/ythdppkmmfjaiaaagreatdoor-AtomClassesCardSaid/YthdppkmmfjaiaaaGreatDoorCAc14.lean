-- Written by pack2.py, a program of this session: this session's texts and those that the kit's printer wrote for this claim, pruned to what the claims use.
import Derived.Test.YthdppkmmfjaiaaaGreatDoorCAc2
namespace Go.Proofs.YthdppkmmfjaiaaaGreatDoor.G
open Go.RowKit Go.Proofs.YthdppkmmfjaiaaaGreatDoorW.PrintWords Go.Proofs.YthdppkmmfjaiaaaGreatDoorW.PrintLast Go.Proofs.YthdppkmmfjaiaaaGreatDoorW.PrintMore
attribute [local go_sem] max2_int min2_int max_two min_two max_three min_three max_four min_four
set_option linter.unusedVariables false
set_option linter.unusedSimpArgs false
def vinculumref08_Find.l0 : Nat → List (S75) → ByteArray → Int → Option (ByteArray × Int × Bool × Bool)
  | 0, _, _, _ => none
  | k + 1, x0, x1, x5 => if x5 < (x0.length : Int) then (if 0 ≤ x5 then (if ((rd_T75 x0 x5).f0).toList = x1.toList then (some ((rd_T75 x0 x5).f0, (rd_T75 x0 x5).f1, (rd_T75 x0 x5).f2, (rd_T75 x0 x5).f3)) else (vinculumref08_Find.l0 k x0 x1 (wrap64 (x5 + 1)))) else (none)) else (some (x1, 0, false, false))
def vinculumref08_Find.f (k : Nat) (l0 : List (S75)) (a1 : ByteArray) : Option (ByteArray × Int × Bool × Bool) := vinculumref08_Find.l0 k l0 a1 0
set_option maxHeartbeats 8000000 in
set_option maxRecDepth 100000 in
theorem vinculumref08_Find.calls (k : Nat) (A0 : Option Addr) (c0 : Nat) (l0 : List (S75)) (a1 : ByteArray) (r1 : ByteArray) (r2 : Int) (r3 : Bool) (r4 : Bool) (w : World) (hr0 : Kd.C k75 w A0 l0.length l0) (hc0 : l0.length ≤ c0) (h : vinculumref08_Find.f k l0 a1 = some (r1, r2, r3, r4)) :
    Calls Tryz.prog 44 #[.slice A0 l0.length c0, .string a1] w fun e w' => e = .returned (.agg #[.string r1, .int .i64 r2, .bool r3, .bool r4]) ∧ Below w.heap.size w w' := by
  have hu75 := Tryz.underlying75
  have HR0 := Aside0.mk hr0
  have HC0 := Aside0.mk hc0
  clear hr0 hc0
  have HB := Aside0.mk (Below.refl w.heap.size w)
  have H : (vinculumref08_Find.l0 k l0 a1 0) = some (r1, r2, r3, r4) := h
  clear h
  have H' := Aside0.mk H
  clear H
  go_enter Tryz.func44, Tryz.ntmps44
  go_wp2_with (first | ((with_reducible refine gate_dst (N := 4) rfl ?_); refine box_event ?hg (N := 4) ?hd (cs := #[.string (⟨#[]⟩ : ByteArray), .int .i64 0, .bool false, .bool false]) (t := 75) ?hr ?_; (case hd => rfl); (case hg => rfl); (case hr => first | (go_simp; done) | (go_simp; rfl)); intro gb339 hg w3 hbox hb; have n0_ := Aside0.mk (below_step (by repeat (first | (with_reducible first | exact HB.out | apply below_alloc | apply pw_below_drewN | apply below_drew1) | exact HB.out)) hb); have n1_ := Aside0.mk (hbox); have n2_ := Aside0.mk ((by rw [hg]; exact (below_size (by repeat (first | (with_reducible first | exact HB.out | apply below_alloc | apply pw_below_drewN | apply below_drew1) | exact HB.out))) : w.heap.size ≤ gb339)); have n3_ := Aside0.mk ((by rw [hg]; exact (below_size (by repeat (first | (with_reducible first | exact HB.out | apply below_alloc | apply pw_below_drewN | apply below_drew1) | exact HB.out))) : w.heap.size ≤ gb339)); clear HB; have HB := n0_; have BK339 := n1_; have GW339 := n2_; have GE339 := n3_; clear n0_ n1_ n2_ n3_; clear hb hbox hg))
  go_loopg [5] k (fun kq v5 w' => ∃ (x5_1 : Int) (x340000_1 : ByteArray) (x340001_1 : Int) (x340002_1 : Bool) (x340003_1 : Bool), v5 = .int .i64 x5_1 ∧ Aside0 (vinculumref08_Find.l0 kq l0 a1 x5_1 = some (r1, r2, r3, r4)) ∧ Aside0 (kq ≤ k) ∧ Aside0 (w'.heap[gb339]? = some (.cells #[.string x340000_1, .int .i64 x340001_1, .bool x340002_1, .bool x340003_1] 75 (0, 0))) ∧ Aside0 (Below w.heap.size w w'))
  case atStart => exact ⟨(0), ((⟨#[]⟩ : ByteArray)), (0), (false), (false), (by first | rfl | (simp; done) | (simp [*]; done)), H', ⟨Nat.le_refl _⟩, ⟨by (with_reducible repeat (first | refine blk_drewN ?_ _ | refine blk_drew ?_ | refine blk_alloc ?_ _)); exact BK339.out⟩, ⟨by repeat (first | (with_reducible first | exact HB.out | apply below_alloc | apply pw_below_drewN | apply below_drew1 | refine below_set ?_ GE339.out) | exact HB.out)⟩⟩
  case round =>
    clear H'
    try clear p2
    obtain ⟨x5_1, x340000_1, x340001_1, x340002_1, x340003_1, rfl, HA, HK1, BK339, HB⟩ := hrel
    cases gk with
    | zero => exact absurd HA.out (by simp [vinculumref08_Find.l0])
    | succ k1 =>
      have H := HA.out
      clear HA
      simp only [vinculumref08_Find.l0] at H
      by_cases c4 : x5_1 < (l0.length : Int)
      · rw [if_pos c4] at H
        have c4b0 : decide (x5_1 < (l0.length : Int)) = true := decide_eq_true c4
        clear c4
        by_cases c5 : 0 ≤ x5_1
        · rw [if_pos c5] at H
          have c5b0 : decide (0 ≤ x5_1) = true := decide_eq_true c5
          clear c5
          by_cases c6 : ((rd_T75 l0 x5_1).f0).toList = a1.toList
          · rw [if_pos c6] at H
            have c6b0 : (((rd_T75 l0 x5_1).f0).toList == a1.toList) = true := beq_iff_eq.mpr c6
            have c6b1 : (((rd_T75 l0 x5_1).f0).toList != a1.toList) = false := bne_eq_false_iff_eq.mpr c6
            clear c6
            simp only [Option.some.injEq, Prod.mk.injEq] at H
            obtain ⟨rfl, rfl, rfl, rfl⟩ := H
            have p340 : 0 ≤ (x5_1 : Int) := of_decide_eq_true (by first | (with_reducible assumption) | assumption)
            have q340 : x5_1 < (l0.length : Int) := of_decide_eq_true (by first | (with_reducible assumption) | assumption)
            obtain ⟨ad340, e340, hx340_0, hx340_1, hx340_2, hx340_3⟩ := at_T75 HR0.out x5_1 p340 q340
            cases e340
            replace hx340_0 := (HB.out.cell (World.block_lt_of_cell? w _ hx340_0)).trans hx340_0
            replace hx340_1 := (HB.out.cell (World.block_lt_of_cell? w _ hx340_1)).trans hx340_1
            replace hx340_2 := (HB.out.cell (World.block_lt_of_cell? w _ hx340_2)).trans hx340_2
            replace hx340_3 := (HB.out.cell (World.block_lt_of_cell? w _ hx340_3)).trans hx340_3
            replace p340 := eq_true p340
            replace q340 := eq_true q340
            have p341 : 0 ≤ (x5_1 : Int) := of_decide_eq_true (by first | (with_reducible assumption) | assumption)
            have q341 : x5_1 < (l0.length : Int) := of_decide_eq_true (by first | (with_reducible assumption) | assumption)
            obtain ⟨ad341, e341, hx341_0, hx341_1, hx341_2, hx341_3⟩ := at_T75 HR0.out x5_1 p341 q341
            obtain rfl : ad340 = ad341 := (by injection e341)
            replace hx341_0 := (HB.out.cell (World.block_lt_of_cell? w _ hx341_0)).trans hx341_0
            replace hx341_1 := (HB.out.cell (World.block_lt_of_cell? w _ hx341_1)).trans hx341_1
            replace hx341_2 := (HB.out.cell (World.block_lt_of_cell? w _ hx341_2)).trans hx341_2
            replace hx341_3 := (HB.out.cell (World.block_lt_of_cell? w _ hx341_3)).trans hx341_3
            replace p341 := eq_true p341
            replace q341 := eq_true q341
            have hcz7_0 : wr.cell? ⟨gb339, 0, none⟩ = some (.string x340000_1) := (blk_cell BK339.out 0).trans rfl
            have hcz7_1 : wr.cell? ⟨gb339, 1, none⟩ = some (.int .i64 x340001_1) := (blk_cell BK339.out 1).trans rfl
            have hcz7_2 : wr.cell? ⟨gb339, 2, none⟩ = some (.bool x340002_1) := (blk_cell BK339.out 2).trans rfl
            have hcz7_3 : wr.cell? ⟨gb339, 3, none⟩ = some (.bool x340003_1) := (blk_cell BK339.out 3).trans rfl
            have hfz7_0 := blk_frozen BK339.out 0
            have hfz7_1 := blk_frozen BK339.out 1
            have hfz7_2 := blk_frozen BK339.out 2
            have hfz7_3 := blk_frozen BK339.out 3
            go_wp2
            refine bodyPost_ret (results_cell_row rfl _ _ gb339 75 #[.string ((rd_T75 l0 x5_1).f0), .int .i64 ((rd_T75 l0 x5_1).f1), .bool ((rd_T75 l0 x5_1).f2), .bool ((rd_T75 l0 x5_1).f3)] (0, 0) _ rfl (by (with_reducible repeat (first | refine blk_drewN ?_ _ | refine blk_drew ?_ | refine blk_alloc ?_ _)); refine blk_put (cs := #[.string ((rd_T75 l0 x5_1).f0), .int .i64 ((rd_T75 l0 x5_1).f1), .bool ((rd_T75 l0 x5_1).f2), .bool x340003_1]) ?_ 3 _ rfl; (with_reducible repeat (first | refine blk_drewN ?_ _ | refine blk_drew ?_ | refine blk_alloc ?_ _)); refine blk_put (cs := #[.string ((rd_T75 l0 x5_1).f0), .int .i64 ((rd_T75 l0 x5_1).f1), .bool x340002_1, .bool x340003_1]) ?_ 2 _ rfl; (with_reducible repeat (first | refine blk_drewN ?_ _ | refine blk_drew ?_ | refine blk_alloc ?_ _)); refine blk_put (cs := #[.string ((rd_T75 l0 x5_1).f0), .int .i64 x340001_1, .bool x340002_1, .bool x340003_1]) ?_ 1 _ rfl; (with_reducible repeat (first | refine blk_drewN ?_ _ | refine blk_drew ?_ | refine blk_alloc ?_ _)); refine blk_put (cs := #[.string x340000_1, .int .i64 x340001_1, .bool x340002_1, .bool x340003_1]) ?_ 0 _ rfl; (with_reducible repeat (first | refine blk_drewN ?_ _ | refine blk_drew ?_ | refine blk_alloc ?_ _)); exact BK339.out) Tryz.underlying75 rfl (by kernel_rfl)) rfl ?_
            exact ⟨by first | rfl | (simp [errW_none, errW_some] <;> rfl) | (simp [*, errW_none, errW_some] <;> rfl), by repeat (first | (with_reducible first | exact HB.out | apply below_alloc | apply pw_below_drewN | apply below_drew1 | refine below_set ?_ GE339.out) | exact HB.out)⟩
          · rw [if_neg c6] at H
            have c6b0 : (((rd_T75 l0 x5_1).f0).toList == a1.toList) = false := beq_eq_false_iff_ne.mpr c6
            have c6b1 : (((rd_T75 l0 x5_1).f0).toList != a1.toList) = true := bne_iff_ne.mpr c6
            have H' := Aside0.mk H
            clear H
            have p340 : 0 ≤ (x5_1 : Int) := of_decide_eq_true (by first | (with_reducible assumption) | assumption)
            have q340 : x5_1 < (l0.length : Int) := of_decide_eq_true (by first | (with_reducible assumption) | assumption)
            obtain ⟨ad340, e340, hx340_0, hx340_1, hx340_2, hx340_3⟩ := at_T75 HR0.out x5_1 p340 q340
            cases e340
            replace hx340_0 := (HB.out.cell (World.block_lt_of_cell? w _ hx340_0)).trans hx340_0
            replace hx340_1 := (HB.out.cell (World.block_lt_of_cell? w _ hx340_1)).trans hx340_1
            replace hx340_2 := (HB.out.cell (World.block_lt_of_cell? w _ hx340_2)).trans hx340_2
            replace hx340_3 := (HB.out.cell (World.block_lt_of_cell? w _ hx340_3)).trans hx340_3
            replace p340 := eq_true p340
            replace q340 := eq_true q340
            go_wp2
            go_roundg k1
            case measure => have := HK1.out; omega
            case rel => exact ⟨(wrap64 (x5_1 + 1)), (x340000_1), (x340001_1), (x340002_1), (x340003_1), (by first | rfl | (simp; done) | (simp [*]; done)), H', ⟨by have := HK1.out; omega⟩, ⟨by (with_reducible repeat (first | refine blk_drewN ?_ _ | refine blk_drew ?_ | refine blk_alloc ?_ _)); exact BK339.out⟩, ⟨by repeat (first | (with_reducible first | exact HB.out | apply below_alloc | apply pw_below_drewN | apply below_drew1 | refine below_set ?_ GE339.out) | exact HB.out)⟩⟩
        · rw [if_neg c5] at H
          exact absurd H (by simp)
      · rw [if_neg c4] at H
        have c4b0 : decide (x5_1 < (l0.length : Int)) = false := decide_eq_false c4
        clear c4
        simp only [Option.some.injEq, Prod.mk.injEq] at H
        obtain ⟨rfl, rfl, rfl, rfl⟩ := H
        have hcz8_0 : wr.cell? ⟨gb339, 0, none⟩ = some (.string x340000_1) := (blk_cell BK339.out 0).trans rfl
        have hcz8_1 : wr.cell? ⟨gb339, 1, none⟩ = some (.int .i64 x340001_1) := (blk_cell BK339.out 1).trans rfl
        have hcz8_2 : wr.cell? ⟨gb339, 2, none⟩ = some (.bool x340002_1) := (blk_cell BK339.out 2).trans rfl
        have hcz8_3 : wr.cell? ⟨gb339, 3, none⟩ = some (.bool x340003_1) := (blk_cell BK339.out 3).trans rfl
        have hfz8_0 := blk_frozen BK339.out 0
        have hfz8_1 := blk_frozen BK339.out 1
        have hfz8_2 := blk_frozen BK339.out 2
        have hfz8_3 := blk_frozen BK339.out 3
        go_wp2
        refine bodyPost_ret (results_cell_row rfl _ _ gb339 75 #[.string a1, .int .i64 0, .bool false, .bool false] (0, 0) _ rfl (by (with_reducible repeat (first | refine blk_drewN ?_ _ | refine blk_drew ?_ | refine blk_alloc ?_ _)); refine blk_put (cs := #[.string a1, .int .i64 0, .bool false, .bool x340003_1]) ?_ 3 _ rfl; (with_reducible repeat (first | refine blk_drewN ?_ _ | refine blk_drew ?_ | refine blk_alloc ?_ _)); refine blk_put (cs := #[.string a1, .int .i64 0, .bool x340002_1, .bool x340003_1]) ?_ 2 _ rfl; (with_reducible repeat (first | refine blk_drewN ?_ _ | refine blk_drew ?_ | refine blk_alloc ?_ _)); refine blk_put (cs := #[.string a1, .int .i64 x340001_1, .bool x340002_1, .bool x340003_1]) ?_ 1 _ rfl; (with_reducible repeat (first | refine blk_drewN ?_ _ | refine blk_drew ?_ | refine blk_alloc ?_ _)); refine blk_put (cs := #[.string x340000_1, .int .i64 x340001_1, .bool x340002_1, .bool x340003_1]) ?_ 0 _ rfl; (with_reducible repeat (first | refine blk_drewN ?_ _ | refine blk_drew ?_ | refine blk_alloc ?_ _)); exact BK339.out) Tryz.underlying75 rfl (by kernel_rfl)) rfl ?_
        exact ⟨by first | rfl | (simp [errW_none, errW_some] <;> rfl) | (simp [*, errW_none, errW_some] <;> rfl), by repeat (first | (with_reducible first | exact HB.out | apply below_alloc | apply pw_below_drewN | apply below_drew1 | refine below_set ?_ GE339.out) | exact HB.out)⟩
end Go.Proofs.YthdppkmmfjaiaaaGreatDoor.G
