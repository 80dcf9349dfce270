-- Written by pack2.py, a program of this session: this session's texts and those that the kit's printer wrote for this claim, pruned to what the claims use.
import Derived.Test.YtagkhoeidjlahaaDoorCBp2
namespace Go.Proofs.YtagkhoeidjlahaaDoor.G
open Go.RowKit Go.Proofs.YtagkhoeidjlahaaDoorW.PrintWords Go.Proofs.YtagkhoeidjlahaaDoorW.PrintLast Go.Proofs.YtagkhoeidjlahaaDoorW.PrintMore
attribute [local go_sem] max2_int min2_int max_two min_two max_three min_three max_four min_four
set_option linter.unusedVariables false
set_option linter.unusedSimpArgs false
def vinculumref08_Find.l0 : Nat → List (S68) → ByteArray → Int → Option (ByteArray × Int × Bool × Bool)
  | 0, _, _, _ => none
  | k + 1, x0, x1, x5 => if x5 < (x0.length : Int) then (if 0 ≤ x5 then (if ((rd_T68 x0 x5).f0).toList = x1.toList then (some ((rd_T68 x0 x5).f0, (rd_T68 x0 x5).f1, (rd_T68 x0 x5).f2, (rd_T68 x0 x5).f3)) else (vinculumref08_Find.l0 k x0 x1 (wrap64 (x5 + 1)))) else (none)) else (some (x1, 0, false, false))
def vinculumref08_Find.f (k : Nat) (l0 : List (S68)) (a1 : ByteArray) : Option (ByteArray × Int × Bool × Bool) := vinculumref08_Find.l0 k l0 a1 0
set_option maxHeartbeats 8000000 in
set_option maxRecDepth 100000 in
theorem vinculumref08_Find.calls (k : Nat) (A0 : Option Addr) (c0 : Nat) (l0 : List (S68)) (a1 : ByteArray) (r1 : ByteArray) (r2 : Int) (r3 : Bool) (r4 : Bool) (w : World) (hr0 : Kd.C k68 w A0 l0.length l0) (hc0 : l0.length ≤ c0) (h : vinculumref08_Find.f k l0 a1 = some (r1, r2, r3, r4)) :
    Calls Tryd.prog 92 #[.slice A0 l0.length c0, .string a1] w fun e w' => e = .returned (.agg #[.string r1, .int .i64 r2, .bool r3, .bool r4]) ∧ Below w.heap.size w w' := by
  have hu68 := Tryd.underlying68
  have HR0 := Aside0.mk hr0
  have HC0 := Aside0.mk hc0
  clear hr0 hc0
  have HB := Aside0.mk (Below.refl w.heap.size w)
  have H : (vinculumref08_Find.l0 k l0 a1 0) = some (r1, r2, r3, r4) := h
  clear h
  have H' := Aside0.mk H
  clear H
  go_enter Tryd.func92, Tryd.ntmps92
  go_wp2_with (first | ((with_reducible refine gate_dst (N := 4) rfl ?_); refine box_event ?hg (N := 4) ?hd (cs := #[.string (⟨#[]⟩ : ByteArray), .int .i64 0, .bool false, .bool false]) (t := 68) ?hr ?_; (case hd => rfl); (case hg => rfl); (case hr => first | (go_simp; done) | (go_simp; rfl)); intro gb275 hg w3 hbox hb; have n0_ := Aside0.mk (below_step (by repeat (first | (with_reducible first | exact HB.out | apply below_alloc | apply pw_below_drewN | apply below_drew1) | exact HB.out)) hb); have n1_ := Aside0.mk (hbox); have n2_ := Aside0.mk ((by rw [hg]; exact (below_size (by repeat (first | (with_reducible first | exact HB.out | apply below_alloc | apply pw_below_drewN | apply below_drew1) | exact HB.out))) : w.heap.size ≤ gb275)); have n3_ := Aside0.mk ((by rw [hg]; exact (below_size (by repeat (first | (with_reducible first | exact HB.out | apply below_alloc | apply pw_below_drewN | apply below_drew1) | exact HB.out))) : w.heap.size ≤ gb275)); clear HB; have HB := n0_; have BK275 := n1_; have GW275 := n2_; have GE275 := n3_; clear n0_ n1_ n2_ n3_; clear hb hbox hg))
  go_loopg [5] k (fun kq v5 w' => ∃ (x5_1 : Int) (x276000_1 : ByteArray) (x276001_1 : Int) (x276002_1 : Bool) (x276003_1 : Bool), v5 = .int .i64 x5_1 ∧ Aside0 (vinculumref08_Find.l0 kq l0 a1 x5_1 = some (r1, r2, r3, r4)) ∧ Aside0 (kq ≤ k) ∧ Aside0 (w'.heap[gb275]? = some (.cells #[.string x276000_1, .int .i64 x276001_1, .bool x276002_1, .bool x276003_1] 68 (0, 0))) ∧ Aside0 (Below w.heap.size w w'))
  case atStart => exact ⟨(0), ((⟨#[]⟩ : ByteArray)), (0), (false), (false), (by first | rfl | (simp; done) | (simp [*]; done)), H', ⟨Nat.le_refl _⟩, ⟨by (with_reducible repeat (first | refine blk_drewN ?_ _ | refine blk_drew ?_ | refine blk_alloc ?_ _)); exact BK275.out⟩, ⟨by repeat (first | (with_reducible first | exact HB.out | apply below_alloc | apply pw_below_drewN | apply below_drew1 | refine below_set ?_ GE275.out) | exact HB.out)⟩⟩
  case round =>
    clear H'
    try clear p2
    obtain ⟨x5_1, x276000_1, x276001_1, x276002_1, x276003_1, rfl, HA, HK1, BK275, HB⟩ := hrel
    cases gk with
    | zero => exact absurd HA.out (by simp [vinculumref08_Find.l0])
    | succ k1 =>
      have H := HA.out
      clear HA
      simp only [vinculumref08_Find.l0] at H
      by_cases c4 : x5_1 < (l0.length : Int)
      · rw [if_pos c4] at H
        have c4b0 : decide (x5_1 < (l0.length : Int)) = true := decide_eq_true c4
        clear c4
        by_cases c5 : 0 ≤ x5_1
        · rw [if_pos c5] at H
          have c5b0 : decide (0 ≤ x5_1) = true := decide_eq_true c5
          clear c5
          by_cases c6 : ((rd_T68 l0 x5_1).f0).toList = a1.toList
          · rw [if_pos c6] at H
            have c6b0 : (((rd_T68 l0 x5_1).f0).toList == a1.toList) = true := beq_iff_eq.mpr c6
            have c6b1 : (((rd_T68 l0 x5_1).f0).toList != a1.toList) = false := bne_eq_false_iff_eq.mpr c6
            clear c6
            simp only [Option.some.injEq, Prod.mk.injEq] at H
            obtain ⟨rfl, rfl, rfl, rfl⟩ := H
            have p276 : 0 ≤ (x5_1 : Int) := of_decide_eq_true (by first | (with_reducible assumption) | assumption)
            have q276 : x5_1 < (l0.length : Int) := of_decide_eq_true (by first | (with_reducible assumption) | assumption)
            obtain ⟨ad276, e276, hx276_0, hx276_1, hx276_2, hx276_3⟩ := at_T68 HR0.out x5_1 p276 q276
            cases e276
            replace hx276_0 := (HB.out.cell (World.block_lt_of_cell? w _ hx276_0)).trans hx276_0
            replace hx276_1 := (HB.out.cell (World.block_lt_of_cell? w _ hx276_1)).trans hx276_1
            replace hx276_2 := (HB.out.cell (World.block_lt_of_cell? w _ hx276_2)).trans hx276_2
            replace hx276_3 := (HB.out.cell (World.block_lt_of_cell? w _ hx276_3)).trans hx276_3
            replace p276 := eq_true p276
            replace q276 := eq_true q276
            have p277 : 0 ≤ (x5_1 : Int) := of_decide_eq_true (by first | (with_reducible assumption) | assumption)
            have q277 : x5_1 < (l0.length : Int) := of_decide_eq_true (by first | (with_reducible assumption) | assumption)
            obtain ⟨ad277, e277, hx277_0, hx277_1, hx277_2, hx277_3⟩ := at_T68 HR0.out x5_1 p277 q277
            obtain rfl : ad276 = ad277 := (by injection e277)
            replace hx277_0 := (HB.out.cell (World.block_lt_of_cell? w _ hx277_0)).trans hx277_0
            replace hx277_1 := (HB.out.cell (World.block_lt_of_cell? w _ hx277_1)).trans hx277_1
            replace hx277_2 := (HB.out.cell (World.block_lt_of_cell? w _ hx277_2)).trans hx277_2
            replace hx277_3 := (HB.out.cell (World.block_lt_of_cell? w _ hx277_3)).trans hx277_3
            replace p277 := eq_true p277
            replace q277 := eq_true q277
            have hcz7_0 : wr.cell? ⟨gb275, 0, none⟩ = some (.string x276000_1) := (blk_cell BK275.out 0).trans rfl
            have hcz7_1 : wr.cell? ⟨gb275, 1, none⟩ = some (.int .i64 x276001_1) := (blk_cell BK275.out 1).trans rfl
            have hcz7_2 : wr.cell? ⟨gb275, 2, none⟩ = some (.bool x276002_1) := (blk_cell BK275.out 2).trans rfl
            have hcz7_3 : wr.cell? ⟨gb275, 3, none⟩ = some (.bool x276003_1) := (blk_cell BK275.out 3).trans rfl
            have hfz7_0 := blk_frozen BK275.out 0
            have hfz7_1 := blk_frozen BK275.out 1
            have hfz7_2 := blk_frozen BK275.out 2
            have hfz7_3 := blk_frozen BK275.out 3
            go_wp2
            refine bodyPost_ret (results_cell_row rfl _ _ gb275 68 #[.string ((rd_T68 l0 x5_1).f0), .int .i64 ((rd_T68 l0 x5_1).f1), .bool ((rd_T68 l0 x5_1).f2), .bool ((rd_T68 l0 x5_1).f3)] (0, 0) _ rfl (by (with_reducible repeat (first | refine blk_drewN ?_ _ | refine blk_drew ?_ | refine blk_alloc ?_ _)); refine blk_put (cs := #[.string ((rd_T68 l0 x5_1).f0), .int .i64 ((rd_T68 l0 x5_1).f1), .bool ((rd_T68 l0 x5_1).f2), .bool x276003_1]) ?_ 3 _ rfl; (with_reducible repeat (first | refine blk_drewN ?_ _ | refine blk_drew ?_ | refine blk_alloc ?_ _)); refine blk_put (cs := #[.string ((rd_T68 l0 x5_1).f0), .int .i64 ((rd_T68 l0 x5_1).f1), .bool x276002_1, .bool x276003_1]) ?_ 2 _ rfl; (with_reducible repeat (first | refine blk_drewN ?_ _ | refine blk_drew ?_ | refine blk_alloc ?_ _)); refine blk_put (cs := #[.string ((rd_T68 l0 x5_1).f0), .int .i64 x276001_1, .bool x276002_1, .bool x276003_1]) ?_ 1 _ rfl; (with_reducible repeat (first | refine blk_drewN ?_ _ | refine blk_drew ?_ | refine blk_alloc ?_ _)); refine blk_put (cs := #[.string x276000_1, .int .i64 x276001_1, .bool x276002_1, .bool x276003_1]) ?_ 0 _ rfl; (with_reducible repeat (first | refine blk_drewN ?_ _ | refine blk_drew ?_ | refine blk_alloc ?_ _)); exact BK275.out) Tryd.underlying68 rfl (by kernel_rfl)) rfl ?_
            exact ⟨by first | rfl | (simp [errW_none, errW_some] <;> rfl) | (simp [*, errW_none, errW_some] <;> rfl), by repeat (first | (with_reducible first | exact HB.out | apply below_alloc | apply pw_below_drewN | apply below_drew1 | refine below_set ?_ GE275.out) | exact HB.out)⟩
          · rw [if_neg c6] at H
            have c6b0 : (((rd_T68 l0 x5_1).f0).toList == a1.toList) = false := beq_eq_false_iff_ne.mpr c6
            have c6b1 : (((rd_T68 l0 x5_1).f0).toList != a1.toList) = true := bne_iff_ne.mpr c6
            have H' := Aside0.mk H
            clear H
            have p276 : 0 ≤ (x5_1 : Int) := of_decide_eq_true (by first | (with_reducible assumption) | assumption)
            have q276 : x5_1 < (l0.length : Int) := of_decide_eq_true (by first | (with_reducible assumption) | assumption)
            obtain ⟨ad276, e276, hx276_0, hx276_1, hx276_2, hx276_3⟩ := at_T68 HR0.out x5_1 p276 q276
            cases e276
            replace hx276_0 := (HB.out.cell (World.block_lt_of_cell? w _ hx276_0)).trans hx276_0
            replace hx276_1 := (HB.out.cell (World.block_lt_of_cell? w _ hx276_1)).trans hx276_1
            replace hx276_2 := (HB.out.cell (World.block_lt_of_cell? w _ hx276_2)).trans hx276_2
            replace hx276_3 := (HB.out.cell (World.block_lt_of_cell? w _ hx276_3)).trans hx276_3
            replace p276 := eq_true p276
            replace q276 := eq_true q276
            go_wp2
            go_roundg k1
            case measure => have := HK1.out; omega
            case rel => exact ⟨(wrap64 (x5_1 + 1)), (x276000_1), (x276001_1), (x276002_1), (x276003_1), (by first | rfl | (simp; done) | (simp [*]; done)), H', ⟨by have := HK1.out; omega⟩, ⟨by (with_reducible repeat (first | refine blk_drewN ?_ _ | refine blk_drew ?_ | refine blk_alloc ?_ _)); exact BK275.out⟩, ⟨by repeat (first | (with_reducible first | exact HB.out | apply below_alloc | apply pw_below_drewN | apply below_drew1 | refine below_set ?_ GE275.out) | exact HB.out)⟩⟩
        · rw [if_neg c5] at H
          exact absurd H (by simp)
      · rw [if_neg c4] at H
        have c4b0 : decide (x5_1 < (l0.length : Int)) = false := decide_eq_false c4
        clear c4
        simp only [Option.some.injEq, Prod.mk.injEq] at H
        obtain ⟨rfl, rfl, rfl, rfl⟩ := H
        have hcz8_0 : wr.cell? ⟨gb275, 0, none⟩ = some (.string x276000_1) := (blk_cell BK275.out 0).trans rfl
        have hcz8_1 : wr.cell? ⟨gb275, 1, none⟩ = some (.int .i64 x276001_1) := (blk_cell BK275.out 1).trans rfl
        have hcz8_2 : wr.cell? ⟨gb275, 2, none⟩ = some (.bool x276002_1) := (blk_cell BK275.out 2).trans rfl
        have hcz8_3 : wr.cell? ⟨gb275, 3, none⟩ = some (.bool x276003_1) := (blk_cell BK275.out 3).trans rfl
        have hfz8_0 := blk_frozen BK275.out 0
        have hfz8_1 := blk_frozen BK275.out 1
        have hfz8_2 := blk_frozen BK275.out 2
        have hfz8_3 := blk_frozen BK275.out 3
        go_wp2
        refine bodyPost_ret (results_cell_row rfl _ _ gb275 68 #[.string a1, .int .i64 0, .bool false, .bool false] (0, 0) _ rfl (by (with_reducible repeat (first | refine blk_drewN ?_ _ | refine blk_drew ?_ | refine blk_alloc ?_ _)); refine blk_put (cs := #[.string a1, .int .i64 0, .bool false, .bool x276003_1]) ?_ 3 _ rfl; (with_reducible repeat (first | refine blk_drewN ?_ _ | refine blk_drew ?_ | refine blk_alloc ?_ _)); refine blk_put (cs := #[.string a1, .int .i64 0, .bool x276002_1, .bool x276003_1]) ?_ 2 _ rfl; (with_reducible repeat (first | refine blk_drewN ?_ _ | refine blk_drew ?_ | refine blk_alloc ?_ _)); refine blk_put (cs := #[.string a1, .int .i64 x276001_1, .bool x276002_1, .bool x276003_1]) ?_ 1 _ rfl; (with_reducible repeat (first | refine blk_drewN ?_ _ | refine blk_drew ?_ | refine blk_alloc ?_ _)); refine blk_put (cs := #[.string x276000_1, .int .i64 x276001_1, .bool x276002_1, .bool x276003_1]) ?_ 0 _ rfl; (with_reducible repeat (first | refine blk_drewN ?_ _ | refine blk_drew ?_ | refine blk_alloc ?_ _)); exact BK275.out) Tryd.underlying68 rfl (by kernel_rfl)) rfl ?_
        exact ⟨by first | rfl | (simp [errW_none, errW_some] <;> rfl) | (simp [*, errW_none, errW_some] <;> rfl), by repeat (first | (with_reducible first | exact HB.out | apply below_alloc | apply pw_below_drewN | apply below_drew1 | refine below_set ?_ GE275.out) | exact HB.out)⟩
end Go.Proofs.YtagkhoeidjlahaaDoor.G
namespace Go.Proofs.YtagkhoeidjlahaaDoor.G
open Go.RowKit Go.Proofs.YtagkhoeidjlahaaDoorW.PrintWords Go.Proofs.YtagkhoeidjlahaaDoorW.PrintLast Go.Proofs.YtagkhoeidjlahaaDoorW.PrintMore
attribute [local go_sem] max2_int min2_int max_two min_two max_three min_three max_four min_four
set_option linter.unusedVariables false
set_option linter.unusedSimpArgs false
mutual
def vinculumref26_Class.j0 : Nat → List (S68) → Int → Bool → Int → ByteArray → Int → List (S36) → Option (Int)
  | 0, _, _, _, _, _, _, _ => none
  | k + 1, x0, x6, x14, x279000, x279001, x279002, x279003 => if x14 = true then (if (x279003.length : Int) > 0 then (if 0 < (x279003.length : Int) then (if (((rd_T36 x279003 0).f3).length : Int) = 1 then (if 0 < (((rd_T36 x279003 0).f3).length : Int) then ((vinculumref26_Class.f k x0 ((rd_T36 ((rd_T36 x279003 0).f3) 0).f0) ((rd_T36 ((rd_T36 x279003 0).f3) 0).f1) ((rd_T36 ((rd_T36 x279003 0).f3) 0).f2) ((rd_T36 ((rd_T36 x279003 0).f3) 0).f3)).bind fun t286 => (some t286)) else (none)) else (some 0)) else (none)) else (some 0)) else (if x6 = 5 then (some 7) else (if x6 = 11 then (some 7) else (if x6 = 12 then (some 7) else (some 0))))
def vinculumref26_Class.f : Nat → List (S68) → Int → ByteArray → Int → List (S36) → Option (Int)
  | 0, _, _, _, _, _ => none
  | k + 1, l0, a1_0, a1_1, a1_2, l1_3 => if a1_0 = 2 then ((vinculumref08_Find.f k l0 a1_1).bind fun bt279 => (some bt279.2.1)) else (if a1_0 = 7 then (vinculumref26_Class.j0 k l0 a1_0 (a1_0 == 7) a1_0 a1_1 a1_2 l1_3) else (if a1_0 = 8 then (vinculumref26_Class.j0 k l0 a1_0 (a1_0 == 8) a1_0 a1_1 a1_2 l1_3) else (vinculumref26_Class.j0 k l0 a1_0 (a1_0 == 9) a1_0 a1_1 a1_2 l1_3)))
end
set_option maxHeartbeats 8000000 in
set_option maxRecDepth 100000 in
theorem vinculumref26_Class.calls (k : Nat) : ∀ (A0 : Option Addr) (c0 : Nat) (l0 : List (S68)) (a1_0 : Int) (a1_1 : ByteArray) (a1_2 : Int) (A1_3 : Option Addr) (c1_3 : Nat) (l1_3 : List (S36)) (r : Int) (w : World) (hr0 : Kd.C k68 w A0 l0.length l0) (hc0 : l0.length ≤ c0) (hr1_3 : Kd.C k36 w A1_3 l1_3.length l1_3) (hc1_3 : l1_3.length ≤ c1_3) (h : vinculumref26_Class.f k l0 a1_0 a1_1 a1_2 l1_3 = some r),
    Calls Tryd.prog 66 #[.slice A0 l0.length c0, .agg #[.int .i64 a1_0, .string a1_1, .int .i64 a1_2, .slice A1_3 l1_3.length c1_3]] w fun e w' => e = .returned (.int .i64 r) ∧ Below w.heap.size w w' := by
  induction k using Nat.strongRecOn with
  | _ k ih =>
  intro A0 c0 l0 a1_0 a1_1 a1_2 A1_3 c1_3 l1_3 r w hr0 hc0 hr1_3 hc1_3 h
  cases k with
  | zero => exact absurd h (by simp [vinculumref26_Class.f])
  | succ k =>
  simp only [vinculumref26_Class.f] at h
  have hu36 := Tryd.underlying36
  have hu68 := Tryd.underlying68
  have hfd68_1 : ∀ (x0 x1 x2 x3 : Value) (W : World), (Instr.field 68 (.agg #[x0, x1, x2, x3]) 1).run Tryd.prog W = .ok x1 W := fun _ _ _ _ _ => by kernel_rfl
  have HR0 := Aside0.mk hr0
  have HC0 := Aside0.mk hc0
  clear hr0 hc0
  have HR1_3 := Aside0.mk hr1_3
  have HC1_3 := Aside0.mk hc1_3
  clear hr1_3 hc1_3
  have HB := Aside0.mk (Below.refl w.heap.size w)
  have H : (if a1_0 = 2 then ((vinculumref08_Find.f k l0 a1_1).bind fun bt279 => (some bt279.2.1)) else (if a1_0 = 7 then (vinculumref26_Class.j0 k l0 a1_0 (a1_0 == 7) a1_0 a1_1 a1_2 l1_3) else (if a1_0 = 8 then (vinculumref26_Class.j0 k l0 a1_0 (a1_0 == 8) a1_0 a1_1 a1_2 l1_3) else (vinculumref26_Class.j0 k l0 a1_0 (a1_0 == 9) a1_0 a1_1 a1_2 l1_3)))) = some r := h
  clear h
  by_cases c3 : a1_0 = 2
  · rw [if_pos c3] at H
    have c3b0 : (a1_0 == 2) = true := beq_iff_eq.mpr c3
    have c3b1 : (a1_0 != 2) = false := bne_eq_false_iff_eq.mpr c3
    clear c3
    replace H := Option.bind_eq_some_iff.mp H
    obtain ⟨⟨t279, t280, t281, t282⟩, A40, H⟩ := H
    replace H : (some t280) = some r := H
    have A4 := Aside0.mk A40
    clear A40
    obtain rfl := Option.some.inj H
    go_enter Tryd.func66, Tryd.ntmps66
    go_wp2_with (first | ((with_reducible refine gate_dst (N := 3) rfl ?_); (try (refine gate_guard (by rfl) ?_; dsimp only)); refine box_event ?hg (N := 3) ?hd (cs := #[.int .i64 a1_0, .string a1_1, .int .i64 a1_2, .slice A1_3 l1_3.length c1_3]) (t := 36) ?hr ?_; (case hd => rfl); (case hg => rfl); (case hr => first | (go_simp; done) | (go_simp; rfl)); intro gb278 hg w5 hbox hb; have n0_ := Aside0.mk (below_step (by repeat (first | (with_reducible first | exact HB.out | apply below_alloc | apply pw_below_drewN | apply below_drew1) | exact HB.out)) hb); have n1_ := Aside0.mk (hbox); have n2_ := Aside0.mk ((by rw [hg]; exact (below_size (by repeat (first | (with_reducible first | exact HB.out | apply below_alloc | apply pw_below_drewN | apply below_drew1) | exact HB.out))) : w.heap.size ≤ gb278)); have n3_ := Aside0.mk ((by rw [hg]; exact (below_size (by repeat (first | (with_reducible first | exact HB.out | apply below_alloc | apply pw_below_drewN | apply below_drew1) | exact HB.out))) : w.heap.size ≤ gb278)); clear HB; have HB := n0_; have BK278 := n1_; have GW278 := n2_; have GE278 := n3_; clear n0_ n1_ n2_ n3_; clear hb hbox hg; have hcz6_0 : w5.cell? ⟨gb278, 0, none⟩ = some (.int .i64 a1_0) := (blk_cell BK278.out 0).trans rfl; have hcz6_1 : w5.cell? ⟨gb278, 1, none⟩ = some (.string a1_1) := (blk_cell BK278.out 1).trans rfl; have hcz6_2 : w5.cell? ⟨gb278, 2, none⟩ = some (.int .i64 a1_2) := (blk_cell BK278.out 2).trans rfl; have hcz6_3 : w5.cell? ⟨gb278, 3, none⟩ = some (.slice A1_3 l1_3.length c1_3) := (blk_cell BK278.out 3).trans rfl; have hfz6_0 := blk_frozen BK278.out 0; have hfz6_1 := blk_frozen BK278.out 1; have hfz6_2 := blk_frozen BK278.out 2; have hfz6_3 := blk_frozen BK278.out 3) | ((with_reducible refine gate_callee (f := 92) rfl ?_); refine goesL_ (some 12) rfl rfl Tryd.func92 (by kernel_rfl) rfl #[.slice A0 l0.length c0, .string a1_1] rfl (by (try simp only [List.map_toArray, List.map_cons, List.map_nil]); first | done | rfl | (simp only [List.length_drop, List.length_take]; rfl)) ?_; (with_reducible refine (vinculumref08_Find.calls k _ _ l0 a1_1 t279 t280 t281 t282 _ ?side1 ?side2 A4.out).mono ?_); (case side1 => repeat (first | exact (Kd.C_below HR0.out HB.out) | (with_reducible refine Kd.C_alloc ?_ _) | (with_reducible refine Kd.C_drewN ?_ _) | (with_reducible refine Kd.C_drew ?_))); (case side2 => exact HC0.out); rintro e w7 ⟨rfl, hb⟩; refine ⟨_, rfl, ?_⟩; have n0_ := Aside0.mk (blk_below (g := gb278) (o := .cells #[.int .i64 a1_0, .string a1_1, .int .i64 a1_2, .slice A1_3 l1_3.length c1_3] 36 (0, 0)) (by (with_reducible repeat (first | refine blk_drewN ?_ _ | refine blk_drew ?_ | refine blk_alloc ?_ _)); exact BK278.out) hb); have n1_ := Aside0.mk (below_step (by repeat (first | (with_reducible first | exact HB.out | apply below_alloc | apply pw_below_drewN | apply below_drew1 | refine below_set ?_ GE278.out) | exact HB.out)) hb); clear BK278; clear HB; have BK278 := n0_; have HB := n1_; clear n0_ n1_; (try clear hb); (try clear hb2); (try clear hk); (try clear hi)))
    go_ret
    exact ⟨by first | rfl | (simp [errW_none, errW_some] <;> rfl) | (simp [*, errW_none, errW_some] <;> rfl), by repeat (first | (with_reducible first | exact HB.out | apply below_alloc | apply pw_below_drewN | apply below_drew1 | refine below_set ?_ GE278.out) | exact HB.out)⟩
  · rw [if_neg c3] at H
    have c3b0 : (a1_0 == 2) = false := beq_eq_false_iff_ne.mpr c3
    have c3b1 : (a1_0 != 2) = true := bne_iff_ne.mpr c3
    have HC8 := Aside0.mk H
    clear H
    go_enter Tryd.func66, Tryd.ntmps66
    go_upto_if 14 with (first | ((with_reducible refine gate_dst (N := 3) rfl ?_); (try (refine gate_guard (by rfl) ?_; dsimp only)); refine box_event ?hg (N := 3) ?hd (cs := #[.int .i64 a1_0, .string a1_1, .int .i64 a1_2, .slice A1_3 l1_3.length c1_3]) (t := 36) ?hr ?_; (case hd => rfl); (case hg => rfl); (case hr => first | (go_simp; done) | (go_simp; rfl)); intro gb278 hg w9 hbox hb; have n0_ := Aside0.mk (below_step (by repeat (first | (with_reducible first | exact HB.out | apply below_alloc | apply pw_below_drewN | apply below_drew1) | exact HB.out)) hb); have n1_ := Aside0.mk (hbox); have n2_ := Aside0.mk ((by rw [hg]; exact (below_size (by repeat (first | (with_reducible first | exact HB.out | apply below_alloc | apply pw_below_drewN | apply below_drew1) | exact HB.out))) : w.heap.size ≤ gb278)); have n3_ := Aside0.mk ((by rw [hg]; exact (below_size (by repeat (first | (with_reducible first | exact HB.out | apply below_alloc | apply pw_below_drewN | apply below_drew1) | exact HB.out))) : w.heap.size ≤ gb278)); clear HB; have HB := n0_; have BK278 := n1_; have GW278 := n2_; have GE278 := n3_; clear n0_ n1_ n2_ n3_; clear hb hbox hg; have hcz10_0 : w9.cell? ⟨gb278, 0, none⟩ = some (.int .i64 a1_0) := (blk_cell BK278.out 0).trans rfl; have hcz10_1 : w9.cell? ⟨gb278, 1, none⟩ = some (.string a1_1) := (blk_cell BK278.out 1).trans rfl; have hcz10_2 : w9.cell? ⟨gb278, 2, none⟩ = some (.int .i64 a1_2) := (blk_cell BK278.out 2).trans rfl; have hcz10_3 : w9.cell? ⟨gb278, 3, none⟩ = some (.slice A1_3 l1_3.length c1_3) := (blk_cell BK278.out 3).trans rfl; have hfz10_0 := blk_frozen BK278.out 0; have hfz10_1 := blk_frozen BK278.out 1; have hfz10_2 := blk_frozen BK278.out 2; have hfz10_3 := blk_frozen BK278.out 3))
    (try simp only [Act.put, List.setIfInBounds_toArray, List.set_cons_zero, List.set_cons_succ])
    go_cut [14] (fun v14 wc => ∃ (kq : Nat) (x14_7 : Bool), v14 = .bool x14_7 ∧ Aside0 (vinculumref26_Class.j0 kq l0 a1_0 x14_7 a1_0 a1_1 a1_2 l1_3 = some r) ∧ Aside0 (kq ≤ k) ∧ Aside0 (wc.heap[gb278]? = some (.cells #[.int .i64 a1_0, .string a1_1, .int .i64 a1_2, (.slice A1_3 l1_3.length c1_3)] 36 (0, 0))) ∧ Aside0 (Below w.heap.size w wc))
    case first =>
      have H := HC8.out
      clear HC8
      by_cases c11 : a1_0 = 7
      · rw [if_pos c11] at H
        have c11b0 : (a1_0 == 7) = true := beq_iff_eq.mpr c11
        have c11b1 : (a1_0 != 7) = false := bne_eq_false_iff_eq.mpr c11
        clear c11
        (first | rw [c11b0] | (simp only [i64_w, i32_w]; rw [c11b0]) | skip)
        have H' := Aside0.mk H
        clear H
        go_wp2
        go_meet
        case rel => exact ⟨_, ((a1_0 == 7)), (by first | rfl | (simp; done) | (simp [*]; done)), H', ⟨by first | omega | exact Nat.le_refl _⟩, ⟨by (with_reducible repeat (first | refine blk_drewN ?_ _ | refine blk_drew ?_ | refine blk_alloc ?_ _)); exact BK278.out⟩, ⟨by repeat (first | (with_reducible first | exact HB.out | apply below_alloc | apply pw_below_drewN | apply below_drew1 | refine below_set ?_ GE278.out) | exact HB.out)⟩⟩
      · rw [if_neg c11] at H
        have c11b0 : (a1_0 == 7) = false := beq_eq_false_iff_ne.mpr c11
        have c11b1 : (a1_0 != 7) = true := bne_iff_ne.mpr c11
        (first | rw [c11b0] | (simp only [i64_w, i32_w]; rw [c11b0]) | skip)
        by_cases c12 : a1_0 = 8
        · rw [if_pos c12] at H
          have c12b0 : (a1_0 == 8) = true := beq_iff_eq.mpr c12
          have c12b1 : (a1_0 != 8) = false := bne_eq_false_iff_eq.mpr c12
          clear c12
          have H' := Aside0.mk H
          clear H
          go_wp2
          go_meet
          case rel => exact ⟨_, ((a1_0 == 8)), (by first | rfl | (simp; done) | (simp [*]; done)), H', ⟨by first | omega | exact Nat.le_refl _⟩, ⟨by (with_reducible repeat (first | refine blk_drewN ?_ _ | refine blk_drew ?_ | refine blk_alloc ?_ _)); exact BK278.out⟩, ⟨by repeat (first | (with_reducible first | exact HB.out | apply below_alloc | apply pw_below_drewN | apply below_drew1 | refine below_set ?_ GE278.out) | exact HB.out)⟩⟩
        · rw [if_neg c12] at H
          have c12b0 : (a1_0 == 8) = false := beq_eq_false_iff_ne.mpr c12
          have c12b1 : (a1_0 != 8) = true := bne_iff_ne.mpr c12
          have H' := Aside0.mk H
          clear H
          go_wp2
          go_meet
          case rel => exact ⟨_, ((a1_0 == 9)), (by first | rfl | (simp; done) | (simp [*]; done)), H', ⟨by first | omega | exact Nat.le_refl _⟩, ⟨by (with_reducible repeat (first | refine blk_drewN ?_ _ | refine blk_drew ?_ | refine blk_alloc ?_ _)); exact BK278.out⟩, ⟨by repeat (first | (with_reducible first | exact HB.out | apply below_alloc | apply pw_below_drewN | apply below_drew1 | refine below_set ?_ GE278.out) | exact HB.out)⟩⟩
    case rest =>
      clear HC8
      try clear c1
      try clear p2
      try clear c3
      try clear c3b0
      try clear c3b1
      try clear c6
      try clear c9
      try clear c11
      try clear c11b0
      try clear c11b1
      try clear c12
      try clear c12b0
      try clear c12b1
      try clear hcz10_0
      try clear hcz10_1
      try clear hcz10_2
      try clear hcz10_3
      try clear hcz6_0
      try clear hcz6_1
      try clear hcz6_2
      try clear hcz6_3
      try clear hfz10_0
      try clear hfz10_1
      try clear hfz10_2
      try clear hfz10_3
      try clear hfz6_0
      try clear hfz6_1
      try clear hfz6_2
      try clear hfz6_3
      obtain ⟨kq, x14_7, rfl, HA, HJ7, BK278, HB⟩ := hcut
      cases kq with
      | zero => exact absurd HA.out (by simp [vinculumref26_Class.j0])
      | succ kj7 =>
        have H := HA.out
        clear HA
        simp only [vinculumref26_Class.j0] at H
        by_cases c13 : x14_7 = true
        · subst c13
          have H1 : (if (l1_3.length : Int) > 0 then (if 0 < (l1_3.length : Int) then (if (((rd_T36 l1_3 0).f3).length : Int) = 1 then (if 0 < (((rd_T36 l1_3 0).f3).length : Int) then ((vinculumref26_Class.f kj7 l0 ((rd_T36 ((rd_T36 l1_3 0).f3) 0).f0) ((rd_T36 ((rd_T36 l1_3 0).f3) 0).f1) ((rd_T36 ((rd_T36 l1_3 0).f3) 0).f2) ((rd_T36 ((rd_T36 l1_3 0).f3) 0).f3)).bind fun t286 => (some t286)) else (none)) else (some 0)) else (none)) else (some 0)) = some r := by rw [if_pos rfl] at H; exact H
          clear H
          have H := H1
          clear H1
          by_cases c14 : (l1_3.length : Int) > 0
          · rw [if_pos c14] at H
            have c14b0 : decide (0 < (l1_3.length : Int)) = true := decide_eq_true c14
            have c14b1 : decide (0 < l1_3.length) = true := decide_eq_true (by omega)
            clear c14
            by_cases c15 : 0 < (l1_3.length : Int)
            · rw [if_pos c15] at H
              have c15b0 : decide (0 < (l1_3.length : Int)) = true := decide_eq_true c15
              have c15b1 : decide (0 < l1_3.length) = true := decide_eq_true (by omega)
              clear c15
              by_cases c16 : (((rd_T36 l1_3 0).f3).length : Int) = 1
              · rw [if_pos c16] at H
                have c16b0 : ((((rd_T36 l1_3 0).f3).length : Int) == 1) = true := beq_iff_eq.mpr c16
                have c16b1 : ((((rd_T36 l1_3 0).f3).length : Int) != 1) = false := bne_eq_false_iff_eq.mpr c16
                clear c16
                by_cases c17 : 0 < (((rd_T36 l1_3 0).f3).length : Int)
                · rw [if_pos c17] at H
                  have c17b0 : decide (0 < (((rd_T36 l1_3 0).f3).length : Int)) = true := decide_eq_true c17
                  have c17b1 : decide (0 < ((rd_T36 l1_3 0).f3).length) = true := decide_eq_true (by omega)
                  clear c17
                  replace H := Option.bind_eq_some_iff.mp H
                  obtain ⟨t286, A180, H⟩ := H
                  replace H : (some t286) = some r := H
                  have A18 := Aside0.mk A180
                  clear A180
                  obtain rfl := Option.some.inj H
                  have hcz19_0 : wc.cell? ⟨gb278, 0, none⟩ = some (.int .i64 a1_0) := (blk_cell BK278.out 0).trans rfl
                  have hcz19_1 : wc.cell? ⟨gb278, 1, none⟩ = some (.string a1_1) := (blk_cell BK278.out 1).trans rfl
                  have hcz19_2 : wc.cell? ⟨gb278, 2, none⟩ = some (.int .i64 a1_2) := (blk_cell BK278.out 2).trans rfl
                  have hcz19_3 : wc.cell? ⟨gb278, 3, none⟩ = some (.slice A1_3 l1_3.length c1_3) := (blk_cell BK278.out 3).trans rfl
                  have hfz19_0 := blk_frozen BK278.out 0
                  have hfz19_1 := blk_frozen BK278.out 1
                  have hfz19_2 := blk_frozen BK278.out 2
                  have hfz19_3 := blk_frozen BK278.out 3
                  have p283 : 0 ≤ (0 : Int) := (by omega)
                  have q283 : 0 < (l1_3.length : Int) := of_decide_eq_true (by first | (with_reducible assumption) | assumption)
                  obtain ⟨ad283, A283_3, c283_3, e283, hx283_0, hx283_1, hx283_2, hx283_3, hl283_3, hi283_3⟩ := at_T36 HR1_3.out 0 p283 q283
                  cases e283
                  have qi283 : (0 < l1_3.length) = True := eq_true (by omega)
                  (try rw [show ((0 : Int)).toNat = 0 from rfl] at hx283_0)
                  (try rw [show 0 * 4 = 0 from rfl] at hx283_0)
                  (try rw [Addr.add_zero'] at hx283_0)
                  (try rw [show ((0 : Int)).toNat = 0 from rfl] at hx283_1)
                  (try rw [show 0 * 4 = 0 from rfl] at hx283_1)
                  (try rw [Addr.add_zero'] at hx283_1)
                  (try rw [show ((0 : Int)).toNat = 0 from rfl] at hx283_2)
                  (try rw [show 0 * 4 = 0 from rfl] at hx283_2)
                  (try rw [Addr.add_zero'] at hx283_2)
                  (try rw [show ((0 : Int)).toNat = 0 from rfl] at hx283_3)
                  (try rw [show 0 * 4 = 0 from rfl] at hx283_3)
                  (try rw [Addr.add_zero'] at hx283_3)
                  replace hx283_0 := (HB.out.cell (World.block_lt_of_cell? w _ hx283_0)).trans hx283_0
                  replace hx283_1 := (HB.out.cell (World.block_lt_of_cell? w _ hx283_1)).trans hx283_1
                  replace hx283_2 := (HB.out.cell (World.block_lt_of_cell? w _ hx283_2)).trans hx283_2
                  replace hx283_3 := (HB.out.cell (World.block_lt_of_cell? w _ hx283_3)).trans hx283_3
                  have HR283_3 := Aside0.mk hi283_3
                  have HC283_3 := Aside0.mk hl283_3
                  clear hi283_3 hl283_3
                  replace p283 := eq_true p283
                  replace q283 := eq_true q283
                  have p284 : 0 ≤ (0 : Int) := (by omega)
                  have q284 : 0 < (l1_3.length : Int) := of_decide_eq_true (by first | (with_reducible assumption) | assumption)
                  obtain ⟨ad284, A284_3, c284_3, e284, hx284_0, hx284_1, hx284_2, hx284_3, hl284_3, hi284_3⟩ := at_T36 HR1_3.out 0 p284 q284
                  obtain rfl : ad283 = ad284 := (by injection e284)
                  have qi284 : (0 < l1_3.length) = True := eq_true (by omega)
                  (try rw [show ((0 : Int)).toNat = 0 from rfl] at hx284_0)
                  (try rw [show 0 * 4 = 0 from rfl] at hx284_0)
                  (try rw [Addr.add_zero'] at hx284_0)
                  (try rw [show ((0 : Int)).toNat = 0 from rfl] at hx284_1)
                  (try rw [show 0 * 4 = 0 from rfl] at hx284_1)
                  (try rw [Addr.add_zero'] at hx284_1)
                  (try rw [show ((0 : Int)).toNat = 0 from rfl] at hx284_2)
                  (try rw [show 0 * 4 = 0 from rfl] at hx284_2)
                  (try rw [Addr.add_zero'] at hx284_2)
                  (try rw [show ((0 : Int)).toNat = 0 from rfl] at hx284_3)
                  (try rw [show 0 * 4 = 0 from rfl] at hx284_3)
                  (try rw [Addr.add_zero'] at hx284_3)
                  replace hx284_0 := (HB.out.cell (World.block_lt_of_cell? w _ hx284_0)).trans hx284_0
                  replace hx284_1 := (HB.out.cell (World.block_lt_of_cell? w _ hx284_1)).trans hx284_1
                  replace hx284_2 := (HB.out.cell (World.block_lt_of_cell? w _ hx284_2)).trans hx284_2
                  replace hx284_3 := (HB.out.cell (World.block_lt_of_cell? w _ hx284_3)).trans hx284_3
                  have HR284_3 := Aside0.mk hi284_3
                  have HC284_3 := Aside0.mk hl284_3
                  clear hi284_3 hl284_3
                  replace p284 := eq_true p284
                  replace q284 := eq_true q284
                  have ea_ := Option.some.inj (hx283_3.symm.trans hx284_3)
                  injection ea_ with ea_ en_ ec_
                  subst ea_
                  subst ec_
                  clear en_
                  have p285 : 0 ≤ (0 : Int) := (by omega)
                  have q285 : 0 < (((rd_T36 l1_3 0).f3).length : Int) := of_decide_eq_true (by first | (with_reducible assumption) | assumption)
                  obtain ⟨ad285, A285_3, c285_3, e285, hx285_0, hx285_1, hx285_2, hx285_3, hl285_3, hi285_3⟩ := at_T36 HR284_3.out 0 p285 q285
                  cases e285
                  have qi285 : (0 < ((rd_T36 l1_3 0).f3).length) = True := eq_true (by omega)
                  (try rw [show ((0 : Int)).toNat = 0 from rfl] at hx285_0)
                  (try rw [show 0 * 4 = 0 from rfl] at hx285_0)
                  (try rw [Addr.add_zero'] at hx285_0)
                  (try rw [show ((0 : Int)).toNat = 0 from rfl] at hx285_1)
                  (try rw [show 0 * 4 = 0 from rfl] at hx285_1)
                  (try rw [Addr.add_zero'] at hx285_1)
                  (try rw [show ((0 : Int)).toNat = 0 from rfl] at hx285_2)
                  (try rw [show 0 * 4 = 0 from rfl] at hx285_2)
                  (try rw [Addr.add_zero'] at hx285_2)
                  (try rw [show ((0 : Int)).toNat = 0 from rfl] at hx285_3)
                  (try rw [show 0 * 4 = 0 from rfl] at hx285_3)
                  (try rw [Addr.add_zero'] at hx285_3)
                  replace hx285_0 := (HB.out.cell (World.block_lt_of_cell? w _ hx285_0)).trans hx285_0
                  replace hx285_1 := (HB.out.cell (World.block_lt_of_cell? w _ hx285_1)).trans hx285_1
                  replace hx285_2 := (HB.out.cell (World.block_lt_of_cell? w _ hx285_2)).trans hx285_2
                  replace hx285_3 := (HB.out.cell (World.block_lt_of_cell? w _ hx285_3)).trans hx285_3
                  have HR285_3 := Aside0.mk hi285_3
                  have HC285_3 := Aside0.mk hl285_3
                  clear hi285_3 hl285_3
                  replace p285 := eq_true p285
                  replace q285 := eq_true q285
                  go_wp2_with (first | ((with_reducible refine gate_callee (f := 66) rfl ?_); refine goesL_ (some 39) rfl rfl Tryd.func66 (by kernel_rfl) rfl #[.slice A0 l0.length c0, .agg #[.int .i64 ((rd_T36 ((rd_T36 l1_3 0).f3) 0).f0), .string ((rd_T36 ((rd_T36 l1_3 0).f3) 0).f1), .int .i64 ((rd_T36 ((rd_T36 l1_3 0).f3) 0).f2), .slice A285_3 ((rd_T36 ((rd_T36 l1_3 0).f3) 0).f3).length c285_3]] rfl (by (try simp only [List.map_toArray, List.map_cons, List.map_nil]); first | done | rfl | (simp only [List.length_drop, List.length_take]; rfl)) ?_; (with_reducible refine (ih kj7 (by have := HJ7.out; omega) _ _ l0 ((rd_T36 ((rd_T36 l1_3 0).f3) 0).f0) ((rd_T36 ((rd_T36 l1_3 0).f3) 0).f1) ((rd_T36 ((rd_T36 l1_3 0).f3) 0).f2) _ _ ((rd_T36 ((rd_T36 l1_3 0).f3) 0).f3) t286 _ ?side1 ?side2 ?side3 ?side4 A18.out).mono ?_); (case side1 => repeat (first | exact (Kd.C_below HR0.out HB.out) | (with_reducible refine Kd.C_alloc ?_ _) | (with_reducible refine Kd.C_drewN ?_ _) | (with_reducible refine Kd.C_drew ?_))); (case side2 => exact HC0.out); (case side3 => repeat (first | exact (Kd.C_below HR285_3.out HB.out) | (with_reducible refine Kd.C_alloc ?_ _) | (with_reducible refine Kd.C_drewN ?_ _) | (with_reducible refine Kd.C_drew ?_))); (case side4 => exact HC285_3.out); rintro e w20 ⟨rfl, hb⟩; refine ⟨_, rfl, ?_⟩; have n0_ := Aside0.mk (blk_below (g := gb278) (o := .cells #[.int .i64 a1_0, .string a1_1, .int .i64 a1_2, .slice (some ad283) l1_3.length c1_3] 36 (0, 0)) (by (with_reducible repeat (first | refine blk_drewN ?_ _ | refine blk_drew ?_ | refine blk_alloc ?_ _)); exact BK278.out) hb); have n1_ := Aside0.mk (below_step (by repeat (first | (with_reducible first | exact HB.out | apply below_alloc | apply pw_below_drewN | apply below_drew1 | refine below_set ?_ GE278.out) | exact HB.out)) hb); clear BK278; clear HB; have BK278 := n0_; have HB := n1_; clear n0_ n1_; (try clear hb); (try clear hb2); (try clear hk); (try clear hi)))
                  go_ret
                  exact ⟨by first | rfl | (simp [errW_none, errW_some] <;> rfl) | (simp [*, errW_none, errW_some] <;> rfl), by repeat (first | (with_reducible first | exact HB.out | apply below_alloc | apply pw_below_drewN | apply below_drew1 | refine below_set ?_ GE278.out) | exact HB.out)⟩
                · rw [if_neg c17] at H
                  exact absurd H (by simp)
              · rw [if_neg c16] at H
                have c16b0 : ((((rd_T36 l1_3 0).f3).length : Int) == 1) = false := beq_eq_false_iff_ne.mpr c16
                have c16b1 : ((((rd_T36 l1_3 0).f3).length : Int) != 1) = true := bne_iff_ne.mpr c16
                obtain rfl := Option.some.inj H
                have hcz21_0 : wc.cell? ⟨gb278, 0, none⟩ = some (.int .i64 a1_0) := (blk_cell BK278.out 0).trans rfl
                have hcz21_1 : wc.cell? ⟨gb278, 1, none⟩ = some (.string a1_1) := (blk_cell BK278.out 1).trans rfl
                have hcz21_2 : wc.cell? ⟨gb278, 2, none⟩ = some (.int .i64 a1_2) := (blk_cell BK278.out 2).trans rfl
                have hcz21_3 : wc.cell? ⟨gb278, 3, none⟩ = some (.slice A1_3 l1_3.length c1_3) := (blk_cell BK278.out 3).trans rfl
                have hfz21_0 := blk_frozen BK278.out 0
                have hfz21_1 := blk_frozen BK278.out 1
                have hfz21_2 := blk_frozen BK278.out 2
                have hfz21_3 := blk_frozen BK278.out 3
                have p283 : 0 ≤ (0 : Int) := (by omega)
                have q283 : 0 < (l1_3.length : Int) := of_decide_eq_true (by first | (with_reducible assumption) | assumption)
                obtain ⟨ad283, A283_3, c283_3, e283, hx283_0, hx283_1, hx283_2, hx283_3, hl283_3, hi283_3⟩ := at_T36 HR1_3.out 0 p283 q283
                cases e283
                have qi283 : (0 < l1_3.length) = True := eq_true (by omega)
                (try rw [show ((0 : Int)).toNat = 0 from rfl] at hx283_0)
                (try rw [show 0 * 4 = 0 from rfl] at hx283_0)
                (try rw [Addr.add_zero'] at hx283_0)
                (try rw [show ((0 : Int)).toNat = 0 from rfl] at hx283_1)
                (try rw [show 0 * 4 = 0 from rfl] at hx283_1)
                (try rw [Addr.add_zero'] at hx283_1)
                (try rw [show ((0 : Int)).toNat = 0 from rfl] at hx283_2)
                (try rw [show 0 * 4 = 0 from rfl] at hx283_2)
                (try rw [Addr.add_zero'] at hx283_2)
                (try rw [show ((0 : Int)).toNat = 0 from rfl] at hx283_3)
                (try rw [show 0 * 4 = 0 from rfl] at hx283_3)
                (try rw [Addr.add_zero'] at hx283_3)
                replace hx283_0 := (HB.out.cell (World.block_lt_of_cell? w _ hx283_0)).trans hx283_0
                replace hx283_1 := (HB.out.cell (World.block_lt_of_cell? w _ hx283_1)).trans hx283_1
                replace hx283_2 := (HB.out.cell (World.block_lt_of_cell? w _ hx283_2)).trans hx283_2
                replace hx283_3 := (HB.out.cell (World.block_lt_of_cell? w _ hx283_3)).trans hx283_3
                have HR283_3 := Aside0.mk hi283_3
                have HC283_3 := Aside0.mk hl283_3
                clear hi283_3 hl283_3
                replace p283 := eq_true p283
                replace q283 := eq_true q283
                go_wp2
                go_ret
                exact ⟨by first | rfl | (simp [errW_none, errW_some] <;> rfl) | (simp [*, errW_none, errW_some] <;> rfl), by repeat (first | (with_reducible first | exact HB.out | apply below_alloc | apply pw_below_drewN | apply below_drew1 | refine below_set ?_ GE278.out) | exact HB.out)⟩
            · rw [if_neg c15] at H
              exact absurd H (by simp)
          · rw [if_neg c14] at H
            have c14b0 : decide (0 < (l1_3.length : Int)) = false := decide_eq_false c14
            have c14b1 : decide (0 < l1_3.length) = false := decide_eq_false (by omega)
            clear c14
            obtain rfl := Option.some.inj H
            have hcz22_0 : wc.cell? ⟨gb278, 0, none⟩ = some (.int .i64 a1_0) := (blk_cell BK278.out 0).trans rfl
            have hcz22_1 : wc.cell? ⟨gb278, 1, none⟩ = some (.string a1_1) := (blk_cell BK278.out 1).trans rfl
            have hcz22_2 : wc.cell? ⟨gb278, 2, none⟩ = some (.int .i64 a1_2) := (blk_cell BK278.out 2).trans rfl
            have hcz22_3 : wc.cell? ⟨gb278, 3, none⟩ = some (.slice A1_3 l1_3.length c1_3) := (blk_cell BK278.out 3).trans rfl
            have hfz22_0 := blk_frozen BK278.out 0
            have hfz22_1 := blk_frozen BK278.out 1
            have hfz22_2 := blk_frozen BK278.out 2
            have hfz22_3 := blk_frozen BK278.out 3
            go_wp2
            go_ret
            exact ⟨by first | rfl | (simp [errW_none, errW_some] <;> rfl) | (simp [*, errW_none, errW_some] <;> rfl), by repeat (first | (with_reducible first | exact HB.out | apply below_alloc | apply pw_below_drewN | apply below_drew1 | refine below_set ?_ GE278.out) | exact HB.out)⟩
        · replace c13 := Bool.eq_false_iff.mpr c13
          subst c13
          have H1 : (if a1_0 = 5 then (some 7) else (if a1_0 = 11 then (some 7) else (if a1_0 = 12 then (some 7) else (some 0)))) = some r := by rw [if_neg (show ¬ (false = true) by decide)] at H; exact H
          clear H
          have H := H1
          clear H1
          by_cases c23 : a1_0 = 5
          · rw [if_pos c23] at H
            have c23b0 : (a1_0 == 5) = true := beq_iff_eq.mpr c23
            have c23b1 : (a1_0 != 5) = false := bne_eq_false_iff_eq.mpr c23
            clear c23
            obtain rfl := Option.some.inj H
            go_wp2
            go_ret
            exact ⟨by first | rfl | (simp [errW_none, errW_some] <;> rfl) | (simp [*, errW_none, errW_some] <;> rfl), by repeat (first | (with_reducible first | exact HB.out | apply below_alloc | apply pw_below_drewN | apply below_drew1 | refine below_set ?_ GE278.out) | exact HB.out)⟩
          · rw [if_neg c23] at H
            have c23b0 : (a1_0 == 5) = false := beq_eq_false_iff_ne.mpr c23
            have c23b1 : (a1_0 != 5) = true := bne_iff_ne.mpr c23
            by_cases c24 : a1_0 = 11
            · rw [if_pos c24] at H
              have c24b0 : (a1_0 == 11) = true := beq_iff_eq.mpr c24
              have c24b1 : (a1_0 != 11) = false := bne_eq_false_iff_eq.mpr c24
              clear c24
              obtain rfl := Option.some.inj H
              go_wp2
              go_ret
              exact ⟨by first | rfl | (simp [errW_none, errW_some] <;> rfl) | (simp [*, errW_none, errW_some] <;> rfl), by repeat (first | (with_reducible first | exact HB.out | apply below_alloc | apply pw_below_drewN | apply below_drew1 | refine below_set ?_ GE278.out) | exact HB.out)⟩
            · rw [if_neg c24] at H
              have c24b0 : (a1_0 == 11) = false := beq_eq_false_iff_ne.mpr c24
              have c24b1 : (a1_0 != 11) = true := bne_iff_ne.mpr c24
              by_cases c25 : a1_0 = 12
              · rw [if_pos c25] at H
                have c25b0 : (a1_0 == 12) = true := beq_iff_eq.mpr c25
                have c25b1 : (a1_0 != 12) = false := bne_eq_false_iff_eq.mpr c25
                clear c25
                obtain rfl := Option.some.inj H
                go_wp2
                go_ret
                exact ⟨by first | rfl | (simp [errW_none, errW_some] <;> rfl) | (simp [*, errW_none, errW_some] <;> rfl), by repeat (first | (with_reducible first | exact HB.out | apply below_alloc | apply pw_below_drewN | apply below_drew1 | refine below_set ?_ GE278.out) | exact HB.out)⟩
              · rw [if_neg c25] at H
                have c25b0 : (a1_0 == 12) = false := beq_eq_false_iff_ne.mpr c25
                have c25b1 : (a1_0 != 12) = true := bne_iff_ne.mpr c25
                obtain rfl := Option.some.inj H
                go_wp2
                go_ret
                exact ⟨by first | rfl | (simp [errW_none, errW_some] <;> rfl) | (simp [*, errW_none, errW_some] <;> rfl), by repeat (first | (with_reducible first | exact HB.out | apply below_alloc | apply pw_below_drewN | apply below_drew1 | refine below_set ?_ GE278.out) | exact HB.out)⟩
end Go.Proofs.YtagkhoeidjlahaaDoor.G
namespace Go.Proofs.YtagkhoeidjlahaaDoor.G
open Go.RowKit Go.Proofs.YtagkhoeidjlahaaDoorW.PrintWords Go.Proofs.YtagkhoeidjlahaaDoorW.PrintLast Go.Proofs.YtagkhoeidjlahaaDoorW.PrintMore
attribute [local go_sem] max2_int min2_int max_two min_two max_three min_three max_four min_four
set_option linter.unusedVariables false
set_option linter.unusedSimpArgs false
def vinculumref26_opens.f (a0 : Int) : Option (Bool) := if a0 = 2 then (some true) else (if a0 = 1 then (some true) else (if a0 = 3 then (some true) else (if a0 = 4 then (some true) else (some (a0 == 6)))))
set_option maxHeartbeats 8000000 in
set_option maxRecDepth 100000 in
theorem vinculumref26_opens.calls (a0 : Int) (r : Bool) (w : World) (h : vinculumref26_opens.f a0 = some r) :
    Calls Tryd.prog 93 #[.int .i64 a0] w fun e w' => e = .returned (.bool r) ∧ Drawn0 w w' := by
  have H : (if a0 = 2 then (some true) else (if a0 = 1 then (some true) else (if a0 = 3 then (some true) else (if a0 = 4 then (some true) else (some (a0 == 6)))))) = some r := h
  clear h
  by_cases c2 : a0 = 2
  · rw [if_pos c2] at H
    have c2b0 : (a0 == 2) = true := beq_iff_eq.mpr c2
    have c2b1 : (a0 != 2) = false := bne_eq_false_iff_eq.mpr c2
    clear c2
    obtain rfl := Option.some.inj H
    go_enter Tryd.func93, Tryd.ntmps93
    go_wp2
    go_ret
    exact ⟨by first | rfl | (simp; done) | (simp [*]; done), by repeat (first | exact Drawn0.refl _ | apply Drawn0.step)⟩
  · rw [if_neg c2] at H
    have c2b0 : (a0 == 2) = false := beq_eq_false_iff_ne.mpr c2
    have c2b1 : (a0 != 2) = true := bne_iff_ne.mpr c2
    by_cases c3 : a0 = 1
    · rw [if_pos c3] at H
      have c3b0 : (a0 == 1) = true := beq_iff_eq.mpr c3
      have c3b1 : (a0 != 1) = false := bne_eq_false_iff_eq.mpr c3
      clear c3
      obtain rfl := Option.some.inj H
      go_enter Tryd.func93, Tryd.ntmps93
      go_wp2
      go_ret
      exact ⟨by first | rfl | (simp; done) | (simp [*]; done), by repeat (first | exact Drawn0.refl _ | apply Drawn0.step)⟩
    · rw [if_neg c3] at H
      have c3b0 : (a0 == 1) = false := beq_eq_false_iff_ne.mpr c3
      have c3b1 : (a0 != 1) = true := bne_iff_ne.mpr c3
      by_cases c4 : a0 = 3
      · rw [if_pos c4] at H
        have c4b0 : (a0 == 3) = true := beq_iff_eq.mpr c4
        have c4b1 : (a0 != 3) = false := bne_eq_false_iff_eq.mpr c4
        clear c4
        obtain rfl := Option.some.inj H
        go_enter Tryd.func93, Tryd.ntmps93
        go_wp2
        go_ret
        exact ⟨by first | rfl | (simp; done) | (simp [*]; done), by repeat (first | exact Drawn0.refl _ | apply Drawn0.step)⟩
      · rw [if_neg c4] at H
        have c4b0 : (a0 == 3) = false := beq_eq_false_iff_ne.mpr c4
        have c4b1 : (a0 != 3) = true := bne_iff_ne.mpr c4
        by_cases c5 : a0 = 4
        · rw [if_pos c5] at H
          have c5b0 : (a0 == 4) = true := beq_iff_eq.mpr c5
          have c5b1 : (a0 != 4) = false := bne_eq_false_iff_eq.mpr c5
          clear c5
          obtain rfl := Option.some.inj H
          go_enter Tryd.func93, Tryd.ntmps93
          go_wp2
          go_ret
          exact ⟨by first | rfl | (simp; done) | (simp [*]; done), by repeat (first | exact Drawn0.refl _ | apply Drawn0.step)⟩
        · rw [if_neg c5] at H
          have c5b0 : (a0 == 4) = false := beq_eq_false_iff_ne.mpr c5
          have c5b1 : (a0 != 4) = true := bne_iff_ne.mpr c5
          obtain rfl := Option.some.inj H
          go_enter Tryd.func93, Tryd.ntmps93
          go_wp2
          go_ret
          exact ⟨by first | rfl | (simp; done) | (simp [*]; done), by repeat (first | exact Drawn0.refl _ | apply Drawn0.step)⟩
end Go.Proofs.YtagkhoeidjlahaaDoor.G
namespace Go.Proofs.YtagkhoeidjlahaaDoor.G
open Go.RowKit Go.Proofs.YtagkhoeidjlahaaDoorW.PrintWords Go.Proofs.YtagkhoeidjlahaaDoorW.PrintLast Go.Proofs.YtagkhoeidjlahaaDoorW.PrintMore
attribute [local go_sem] max2_int min2_int max_two min_two max_three min_three max_four min_four
set_option linter.unusedVariables false
set_option linter.unusedSimpArgs false
def vinculumref26_closes.f (a0 : Int) : Option (Bool) := if a0 = 3 then (some true) else (if a0 = 5 then (some true) else (some (a0 == 6)))
set_option maxHeartbeats 8000000 in
set_option maxRecDepth 100000 in
theorem vinculumref26_closes.calls (a0 : Int) (r : Bool) (w : World) (h : vinculumref26_closes.f a0 = some r) :
    Calls Tryd.prog 94 #[.int .i64 a0] w fun e w' => e = .returned (.bool r) ∧ Drawn0 w w' := by
  have H : (if a0 = 3 then (some true) else (if a0 = 5 then (some true) else (some (a0 == 6)))) = some r := h
  clear h
  by_cases c2 : a0 = 3
  · rw [if_pos c2] at H
    have c2b0 : (a0 == 3) = true := beq_iff_eq.mpr c2
    have c2b1 : (a0 != 3) = false := bne_eq_false_iff_eq.mpr c2
    clear c2
    obtain rfl := Option.some.inj H
    go_enter Tryd.func94, Tryd.ntmps94
    go_wp2
    go_ret
    exact ⟨by first | rfl | (simp; done) | (simp [*]; done), by repeat (first | exact Drawn0.refl _ | apply Drawn0.step)⟩
  · rw [if_neg c2] at H
    have c2b0 : (a0 == 3) = false := beq_eq_false_iff_ne.mpr c2
    have c2b1 : (a0 != 3) = true := bne_iff_ne.mpr c2
    by_cases c3 : a0 = 5
    · rw [if_pos c3] at H
      have c3b0 : (a0 == 5) = true := beq_iff_eq.mpr c3
      have c3b1 : (a0 != 5) = false := bne_eq_false_iff_eq.mpr c3
      clear c3
      obtain rfl := Option.some.inj H
      go_enter Tryd.func94, Tryd.ntmps94
      go_wp2
      go_ret
      exact ⟨by first | rfl | (simp; done) | (simp [*]; done), by repeat (first | exact Drawn0.refl _ | apply Drawn0.step)⟩
    · rw [if_neg c3] at H
      have c3b0 : (a0 == 5) = false := beq_eq_false_iff_ne.mpr c3
      have c3b1 : (a0 != 5) = true := bne_iff_ne.mpr c3
      obtain rfl := Option.some.inj H
      go_enter Tryd.func94, Tryd.ntmps94
      go_wp2
      go_ret
      exact ⟨by first | rfl | (simp; done) | (simp [*]; done), by repeat (first | exact Drawn0.refl _ | apply Drawn0.step)⟩
end Go.Proofs.YtagkhoeidjlahaaDoor.G
