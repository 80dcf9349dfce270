-- Written by pack2.py, a program of this session: this session's texts and those that the kit's printer wrote for this claim, pruned to what the claims use.
import Derived.Test.YthdppkmmfjaiaaaDoorCAt2
import Derived.Test.YthdppkmmfjaiaaaDoorCAt6
namespace Go.Proofs.YthdppkmmfjaiaaaDoor.G
open Go.RowKit Go.Proofs.YthdppkmmfjaiaaaDoorW.PrintWords Go.Proofs.YthdppkmmfjaiaaaDoorW.PrintLast Go.Proofs.YthdppkmmfjaiaaaDoorW.PrintMore
attribute [local go_sem] max2_int min2_int max_two min_two max_three min_three max_four min_four
set_option linter.unusedVariables false
set_option linter.unusedSimpArgs false
mutual
def vinculumref09_left.l0 : Nat → Int → Int → Int → ByteArray → Int → List (S25) → Option (Int)
  | 0, _, _, _, _, _, _ => none
  | k + 1, x1, x5, x268000, x268001, x268002, x268003 => if x5 < (x268003.length : Int) then (if x1 ≥ 0 then (if 0 ≤ x5 then ((vinculumref09_left.f k ((rd_T25 x268003 x5).f0) ((rd_T25 x268003 x5).f1) ((rd_T25 x268003 x5).f2) ((rd_T25 x268003 x5).f3) x1).bind fun t269 => (vinculumref09_left.l0 k t269 (wrap64 (x5 + 1)) x268000 x268001 x268002 x268003)) else (none)) else (some x1)) else (some x1)
def vinculumref09_left.f : Nat → Int → ByteArray → Int → List (S25) → Int → Option (Int)
  | 0, _, _, _, _, _ => none
  | k + 1, a0_0, a0_1, a0_2, l0_3, a1 => vinculumref09_left.l0 k (wrap64 (a1 - 1)) 0 a0_0 a0_1 a0_2 l0_3
end
set_option maxHeartbeats 8000000 in
set_option maxRecDepth 100000 in
theorem vinculumref09_left.calls (k : Nat) : ∀ (a0_0 : Int) (a0_1 : ByteArray) (a0_2 : Int) (A0_3 : Option Addr) (c0_3 : Nat) (l0_3 : List (S25)) (a1 : Int) (r : Int) (w : World) (hr0_3 : Kd.C k25 w A0_3 l0_3.length l0_3) (hc0_3 : l0_3.length ≤ c0_3) (h : vinculumref09_left.f k a0_0 a0_1 a0_2 l0_3 a1 = some r),
    Calls Tryd.prog 22 #[.agg #[.int .i64 a0_0, .string a0_1, .int .i64 a0_2, .slice A0_3 l0_3.length c0_3], .int .i64 a1] w fun e w' => e = .returned (.int .i64 r) ∧ Below w.heap.size w w' := by
  induction k using Nat.strongRecOn with
  | _ k ih =>
  intro a0_0 a0_1 a0_2 A0_3 c0_3 l0_3 a1 r w hr0_3 hc0_3 h
  cases k with
  | zero => exact absurd h (by simp [vinculumref09_left.f])
  | succ k =>
  simp only [vinculumref09_left.f] at h
  have hu25 := Tryd.underlying25
  have HR0_3 := Aside0.mk hr0_3
  have HC0_3 := Aside0.mk hc0_3
  clear hr0_3 hc0_3
  have HB := Aside0.mk (Below.refl w.heap.size w)
  have H : (vinculumref09_left.l0 k (wrap64 (a1 - 1)) 0 a0_0 a0_1 a0_2 l0_3) = some r := h
  clear h
  have H' := Aside0.mk H
  clear H
  go_enter Tryd.func22, Tryd.ntmps22
  go_wp2_with (first | ((with_reducible refine gate_dst (N := 2) rfl ?_); refine box_event ?hg (N := 2) ?hd (cs := #[.int .i64 a0_0, .string a0_1, .int .i64 a0_2, .slice A0_3 l0_3.length c0_3]) (t := 25) ?hr ?_; (case hd => rfl); (case hg => rfl); (case hr => first | (go_simp; done) | (go_simp; rfl)); intro gb267 hg w3 hbox hb; have n0_ := Aside0.mk (below_step (by repeat (first | (with_reducible first | exact HB.out | apply below_alloc | apply pw_below_drewN | apply below_drew1) | exact HB.out)) hb); have n1_ := Aside0.mk (hbox); have n2_ := Aside0.mk ((by rw [hg]; exact (below_size (by repeat (first | (with_reducible first | exact HB.out | apply below_alloc | apply pw_below_drewN | apply below_drew1) | exact HB.out))) : w.heap.size ≤ gb267)); have n3_ := Aside0.mk ((by rw [hg]; exact (below_size (by repeat (first | (with_reducible first | exact HB.out | apply below_alloc | apply pw_below_drewN | apply below_drew1) | exact HB.out))) : w.heap.size ≤ gb267)); clear HB; have HB := n0_; have BK267 := n1_; have GW267 := n2_; have GE267 := n3_; clear n0_ n1_ n2_ n3_; clear hb hbox hg))
  go_loopg [1, 5] k (fun kq v1 v5 w' => ∃ (x1_1 : Int) (x5_1 : Int), v1 = .int .i64 x1_1 ∧ v5 = .int .i64 x5_1 ∧ Aside0 (vinculumref09_left.l0 kq x1_1 x5_1 a0_0 a0_1 a0_2 l0_3 = some r) ∧ Aside0 (kq ≤ k) ∧ Aside0 (w'.heap[gb267]? = some (.cells #[.int .i64 a0_0, .string a0_1, .int .i64 a0_2, (.slice A0_3 l0_3.length c0_3)] 25 (0, 0))) ∧ Aside0 (Below w.heap.size w w'))
  case atStart => exact ⟨(wrap64 (a1 - 1)), (0), (by first | rfl | (simp; done) | (simp [*]; done)), (by first | rfl | (simp; done) | (simp [*]; done)), H', ⟨Nat.le_refl _⟩, ⟨by (with_reducible repeat (first | refine blk_drewN ?_ _ | refine blk_drew ?_ | refine blk_alloc ?_ _)); exact BK267.out⟩, ⟨by repeat (first | (with_reducible first | exact HB.out | apply below_alloc | apply pw_below_drewN | apply below_drew1 | refine below_set ?_ GE267.out) | exact HB.out)⟩⟩
  case round =>
    clear H'
    try clear c2
    try clear p2
    obtain ⟨x1_1, x5_1, rfl, rfl, HA, HK1, BK267, HB⟩ := hrel
    cases gk with
    | zero => exact absurd HA.out (by simp [vinculumref09_left.l0])
    | succ k1 =>
      have H := HA.out
      clear HA
      simp only [vinculumref09_left.l0] at H
      by_cases c4 : x5_1 < (l0_3.length : Int)
      · rw [if_pos c4] at H
        have c4b0 : decide (x5_1 < (l0_3.length : Int)) = true := decide_eq_true c4
        clear c4
        by_cases c5 : x1_1 ≥ 0
        · rw [if_pos c5] at H
          have c5b0 : decide (0 ≤ x1_1) = true := decide_eq_true c5
          clear c5
          by_cases c6 : 0 ≤ x5_1
          · rw [if_pos c6] at H
            have c6b0 : decide (0 ≤ x5_1) = true := decide_eq_true c6
            clear c6
            replace H := Option.bind_eq_some_iff.mp H
            obtain ⟨t269, A70, H⟩ := H
            replace H : (vinculumref09_left.l0 k1 t269 (wrap64 (x5_1 + 1)) a0_0 a0_1 a0_2 l0_3) = some r := H
            have A7 := Aside0.mk A70
            clear A70
            have H' := Aside0.mk H
            clear H
            have hcz8_0 : wr.cell? ⟨gb267, 0, none⟩ = some (.int .i64 a0_0) := (blk_cell BK267.out 0).trans rfl
            have hcz8_1 : wr.cell? ⟨gb267, 1, none⟩ = some (.string a0_1) := (blk_cell BK267.out 1).trans rfl
            have hcz8_2 : wr.cell? ⟨gb267, 2, none⟩ = some (.int .i64 a0_2) := (blk_cell BK267.out 2).trans rfl
            have hcz8_3 : wr.cell? ⟨gb267, 3, none⟩ = some (.slice A0_3 l0_3.length c0_3) := (blk_cell BK267.out 3).trans rfl
            have hfz8_0 := blk_frozen BK267.out 0
            have hfz8_1 := blk_frozen BK267.out 1
            have hfz8_2 := blk_frozen BK267.out 2
            have hfz8_3 := blk_frozen BK267.out 3
            have p268 : 0 ≤ (x5_1 : Int) := of_decide_eq_true (by first | (with_reducible assumption) | assumption)
            have q268 : x5_1 < (l0_3.length : Int) := of_decide_eq_true (by first | (with_reducible assumption) | assumption)
            obtain ⟨ad268, A268_3, c268_3, e268, hx268_0, hx268_1, hx268_2, hx268_3, hl268_3, hi268_3⟩ := at_T25 HR0_3.out x5_1 p268 q268
            cases e268
            replace hx268_0 := (HB.out.cell (World.block_lt_of_cell? w _ hx268_0)).trans hx268_0
            replace hx268_1 := (HB.out.cell (World.block_lt_of_cell? w _ hx268_1)).trans hx268_1
            replace hx268_2 := (HB.out.cell (World.block_lt_of_cell? w _ hx268_2)).trans hx268_2
            replace hx268_3 := (HB.out.cell (World.block_lt_of_cell? w _ hx268_3)).trans hx268_3
            have HR268_3 := Aside0.mk hi268_3
            have HC268_3 := Aside0.mk hl268_3
            clear hi268_3 hl268_3
            replace p268 := eq_true p268
            replace q268 := eq_true q268
            go_wp2_with (first | ((with_reducible refine gate_callee (f := 22) rfl ?_); refine goesL_ (some 25) rfl rfl Tryd.func22 (by kernel_rfl) rfl #[.agg #[.int .i64 ((rd_T25 l0_3 x5_1).f0), .string ((rd_T25 l0_3 x5_1).f1), .int .i64 ((rd_T25 l0_3 x5_1).f2), .slice A268_3 ((rd_T25 l0_3 x5_1).f3).length c268_3], .int .i64 x1_1] rfl (by (try simp only [List.map_toArray, List.map_cons, List.map_nil]); first | done | rfl | (simp only [List.length_drop, List.length_take]; rfl)) ?_; (with_reducible refine (ih k1 (by have := HK1.out; omega) ((rd_T25 l0_3 x5_1).f0) ((rd_T25 l0_3 x5_1).f1) ((rd_T25 l0_3 x5_1).f2) _ _ ((rd_T25 l0_3 x5_1).f3) x1_1 t269 _ ?side1 ?side2 A7.out).mono ?_); (case side1 => repeat (first | exact (Kd.C_below HR268_3.out HB.out) | (with_reducible refine Kd.C_alloc ?_ _) | (with_reducible refine Kd.C_drewN ?_ _) | (with_reducible refine Kd.C_drew ?_))); (case side2 => exact HC268_3.out); rintro e w9 ⟨rfl, hb⟩; refine ⟨_, rfl, ?_⟩; have n0_ := Aside0.mk (blk_below (g := gb267) (o := .cells #[.int .i64 a0_0, .string a0_1, .int .i64 a0_2, .slice (some ad268) l0_3.length c0_3] 25 (0, 0)) (by (with_reducible repeat (first | refine blk_drewN ?_ _ | refine blk_drew ?_ | refine blk_alloc ?_ _)); exact BK267.out) hb); have n1_ := Aside0.mk (below_step (by repeat (first | (with_reducible first | exact HB.out | apply below_alloc | apply pw_below_drewN | apply below_drew1 | refine below_set ?_ GE267.out) | exact HB.out)) hb); clear BK267; clear HB; have BK267 := n0_; have HB := n1_; clear n0_ n1_; (try clear hb); (try clear hb2); (try clear hk); (try clear hi)))
            go_roundg k1
            case measure => have := HK1.out; omega
            case rel => exact ⟨(t269), (wrap64 (x5_1 + 1)), (by first | rfl | (simp; done) | (simp [*]; done)), (by first | rfl | (simp; done) | (simp [*]; done)), H', ⟨by have := HK1.out; omega⟩, ⟨by (with_reducible repeat (first | refine blk_drewN ?_ _ | refine blk_drew ?_ | refine blk_alloc ?_ _)); exact BK267.out⟩, ⟨by repeat (first | (with_reducible first | exact HB.out | apply below_alloc | apply pw_below_drewN | apply below_drew1 | refine below_set ?_ GE267.out) | exact HB.out)⟩⟩
          · rw [if_neg c6] at H
            exact absurd H (by simp)
        · rw [if_neg c5] at H
          have c5b0 : decide (0 ≤ x1_1) = false := decide_eq_false c5
          clear c5
          obtain rfl := Option.some.inj H
          have hcz10_0 : wr.cell? ⟨gb267, 0, none⟩ = some (.int .i64 a0_0) := (blk_cell BK267.out 0).trans rfl
          have hcz10_1 : wr.cell? ⟨gb267, 1, none⟩ = some (.string a0_1) := (blk_cell BK267.out 1).trans rfl
          have hcz10_2 : wr.cell? ⟨gb267, 2, none⟩ = some (.int .i64 a0_2) := (blk_cell BK267.out 2).trans rfl
          have hcz10_3 : wr.cell? ⟨gb267, 3, none⟩ = some (.slice A0_3 l0_3.length c0_3) := (blk_cell BK267.out 3).trans rfl
          have hfz10_0 := blk_frozen BK267.out 0
          have hfz10_1 := blk_frozen BK267.out 1
          have hfz10_2 := blk_frozen BK267.out 2
          have hfz10_3 := blk_frozen BK267.out 3
          go_wp2
          go_ret
          exact ⟨by first | rfl | (simp [errW_none, errW_some] <;> rfl) | (simp [*, errW_none, errW_some] <;> rfl), by repeat (first | (with_reducible first | exact HB.out | apply below_alloc | apply pw_below_drewN | apply below_drew1 | refine below_set ?_ GE267.out) | exact HB.out)⟩
      · rw [if_neg c4] at H
        have c4b0 : decide (x5_1 < (l0_3.length : Int)) = false := decide_eq_false c4
        clear c4
        obtain rfl := Option.some.inj H
        have hcz11_0 : wr.cell? ⟨gb267, 0, none⟩ = some (.int .i64 a0_0) := (blk_cell BK267.out 0).trans rfl
        have hcz11_1 : wr.cell? ⟨gb267, 1, none⟩ = some (.string a0_1) := (blk_cell BK267.out 1).trans rfl
        have hcz11_2 : wr.cell? ⟨gb267, 2, none⟩ = some (.int .i64 a0_2) := (blk_cell BK267.out 2).trans rfl
        have hcz11_3 : wr.cell? ⟨gb267, 3, none⟩ = some (.slice A0_3 l0_3.length c0_3) := (blk_cell BK267.out 3).trans rfl
        have hfz11_0 := blk_frozen BK267.out 0
        have hfz11_1 := blk_frozen BK267.out 1
        have hfz11_2 := blk_frozen BK267.out 2
        have hfz11_3 := blk_frozen BK267.out 3
        go_wp2
        go_ret
        exact ⟨by first | rfl | (simp [errW_none, errW_some] <;> rfl) | (simp [*, errW_none, errW_some] <;> rfl), by repeat (first | (with_reducible first | exact HB.out | apply below_alloc | apply pw_below_drewN | apply below_drew1 | refine below_set ?_ GE267.out) | exact HB.out)⟩
end Go.Proofs.YthdppkmmfjaiaaaDoor.G
namespace Go.Proofs.YthdppkmmfjaiaaaDoor.G
open Go.RowKit Go.Proofs.YthdppkmmfjaiaaaDoorW.PrintWords Go.Proofs.YthdppkmmfjaiaaaDoorW.PrintLast Go.Proofs.YthdppkmmfjaiaaaDoorW.PrintMore
attribute [local go_sem] max2_int min2_int max_two min_two max_three min_three max_four min_four
set_option linter.unusedVariables false
set_option linter.unusedSimpArgs false
def vinculumref09_Few.f (k : Nat) (a0_0 : Int) (a0_1 : ByteArray) (a0_2 : Int) (l0_3 : List (S25)) (a1 : Int) : Option (Bool) := (vinculumref09_left.f k a0_0 a0_1 a0_2 l0_3 a1).bind fun t271 => (some (decide (t271 ≥ 0)))
set_option maxHeartbeats 8000000 in
set_option maxRecDepth 100000 in
theorem vinculumref09_Few.calls (k : Nat) (a0_0 : Int) (a0_1 : ByteArray) (a0_2 : Int) (A0_3 : Option Addr) (c0_3 : Nat) (l0_3 : List (S25)) (a1 : Int) (r : Bool) (w : World) (hr0_3 : Kd.C k25 w A0_3 l0_3.length l0_3) (hc0_3 : l0_3.length ≤ c0_3) (h : vinculumref09_Few.f k a0_0 a0_1 a0_2 l0_3 a1 = some r) :
    Calls Tryd.prog 10 #[.agg #[.int .i64 a0_0, .string a0_1, .int .i64 a0_2, .slice A0_3 l0_3.length c0_3], .int .i64 a1] w fun e w' => e = .returned (.bool r) ∧ Below w.heap.size w w' := by
  have hu25 := Tryd.underlying25
  have HR0_3 := Aside0.mk hr0_3
  have HC0_3 := Aside0.mk hc0_3
  clear hr0_3 hc0_3
  have HB := Aside0.mk (Below.refl w.heap.size w)
  have H : ((vinculumref09_left.f k a0_0 a0_1 a0_2 l0_3 a1).bind fun t271 => (some (decide (t271 ≥ 0)))) = some r := h
  clear h
  replace H := Option.bind_eq_some_iff.mp H
  obtain ⟨t271, A30, H⟩ := H
  replace H : (some (decide (t271 ≥ 0))) = some r := H
  have A3 := Aside0.mk A30
  clear A30
  obtain rfl := Option.some.inj H
  go_enter Tryd.func10, Tryd.ntmps10
  go_wp2_with (first | ((with_reducible refine gate_dst (N := 2) rfl ?_); refine box_event ?hg (N := 2) ?hd (cs := #[.int .i64 a0_0, .string a0_1, .int .i64 a0_2, .slice A0_3 l0_3.length c0_3]) (t := 25) ?hr ?_; (case hd => rfl); (case hg => rfl); (case hr => first | (go_simp; done) | (go_simp; rfl)); intro gb270 hg w4 hbox hb; have n0_ := Aside0.mk (below_step (by repeat (first | (with_reducible first | exact HB.out | apply below_alloc | apply pw_below_drewN | apply below_drew1) | exact HB.out)) hb); have n1_ := Aside0.mk (hbox); have n2_ := Aside0.mk ((by rw [hg]; exact (below_size (by repeat (first | (with_reducible first | exact HB.out | apply below_alloc | apply pw_below_drewN | apply below_drew1) | exact HB.out))) : w.heap.size ≤ gb270)); have n3_ := Aside0.mk ((by rw [hg]; exact (below_size (by repeat (first | (with_reducible first | exact HB.out | apply below_alloc | apply pw_below_drewN | apply below_drew1) | exact HB.out))) : w.heap.size ≤ gb270)); clear HB; have HB := n0_; have BK270 := n1_; have GW270 := n2_; have GE270 := n3_; clear n0_ n1_ n2_ n3_; clear hb hbox hg; have hcz5_0 : w4.cell? ⟨gb270, 0, none⟩ = some (.int .i64 a0_0) := (blk_cell BK270.out 0).trans rfl; have hcz5_1 : w4.cell? ⟨gb270, 1, none⟩ = some (.string a0_1) := (blk_cell BK270.out 1).trans rfl; have hcz5_2 : w4.cell? ⟨gb270, 2, none⟩ = some (.int .i64 a0_2) := (blk_cell BK270.out 2).trans rfl; have hcz5_3 : w4.cell? ⟨gb270, 3, none⟩ = some (.slice A0_3 l0_3.length c0_3) := (blk_cell BK270.out 3).trans rfl; have hfz5_0 := blk_frozen BK270.out 0; have hfz5_1 := blk_frozen BK270.out 1; have hfz5_2 := blk_frozen BK270.out 2; have hfz5_3 := blk_frozen BK270.out 3) | ((with_reducible refine gate_callee (f := 22) rfl ?_); refine goesL_ (some 7) rfl rfl Tryd.func22 (by kernel_rfl) rfl #[.agg #[.int .i64 a0_0, .string a0_1, .int .i64 a0_2, .slice A0_3 l0_3.length c0_3], .int .i64 a1] rfl (by (try simp only [List.map_toArray, List.map_cons, List.map_nil]); first | done | rfl | (simp only [List.length_drop, List.length_take]; rfl)) ?_; (with_reducible refine (vinculumref09_left.calls k a0_0 a0_1 a0_2 _ _ l0_3 a1 t271 _ ?side1 ?side2 A3.out).mono ?_); (case side1 => repeat (first | exact (Kd.C_below HR0_3.out HB.out) | (with_reducible refine Kd.C_alloc ?_ _) | (with_reducible refine Kd.C_drewN ?_ _) | (with_reducible refine Kd.C_drew ?_))); (case side2 => exact HC0_3.out); rintro e w6 ⟨rfl, hb⟩; refine ⟨_, rfl, ?_⟩; have n0_ := Aside0.mk (blk_below (g := gb270) (o := .cells #[.int .i64 a0_0, .string a0_1, .int .i64 a0_2, .slice A0_3 l0_3.length c0_3] 25 (0, 0)) (by (with_reducible repeat (first | refine blk_drewN ?_ _ | refine blk_drew ?_ | refine blk_alloc ?_ _)); exact BK270.out) hb); have n1_ := Aside0.mk (below_step (by repeat (first | (with_reducible first | exact HB.out | apply below_alloc | apply pw_below_drewN | apply below_drew1 | refine below_set ?_ GE270.out) | exact HB.out)) hb); clear BK270; clear HB; have BK270 := n0_; have HB := n1_; clear n0_ n1_; (try clear hb); (try clear hb2); (try clear hk); (try clear hi)))
  go_ret
  exact ⟨by first | rfl | (simp [errW_none, errW_some] <;> rfl) | (simp [*, errW_none, errW_some] <;> rfl), by repeat (first | (with_reducible first | exact HB.out | apply below_alloc | apply pw_below_drewN | apply below_drew1 | refine below_set ?_ GE270.out) | exact HB.out)⟩
end Go.Proofs.YthdppkmmfjaiaaaDoor.G
namespace Go.Proofs.YthdppkmmfjaiaaaDoor.G.Pure
open Go.Proofs.YthdppkmmfjaiaaaDoorW.PrintWords Go.RowKit
set_option linter.unusedVariables false
set_option linter.unusedSimpArgs false
def shp (kd : Int) (s : ByteArray) (cols : Int) (n : Nat) : Bool :=
  if kd = 1 then shR s cols n else if kd = 12 then shM s cols n
  else if kd = 2 then shT (symB s) cols n 0
  else if kd = 3 then shT (numB (L s)) cols n 0
  else if kd = 4 then shT (priB (L s) && decide (s.size ≤ 200)) cols n 0
  else if kd = 10 then shT (inB accs s) cols n 1
  else if kd = 11 then shT (fenB s) cols n 1
  else if kd = 9 then shT (s.toList == []) cols n 3
  else if 5 ≤ kd ∧ kd ≤ 8 then shT (s.toList == []) cols n 2
  else false
theorem nAcc_ev (s : ByteArray) : Ev (fun k => node_accent.f k s) (inB accs s) := by
  unfold node_accent.f
  exact ev_bind (Contains_ev accs s (by decide)) (Ev.now _)
theorem nPri_ev (s : ByteArray) (hs : s.size ≤ M) : Ev (fun k => node_printable.f k s) (priB (L s) && decide (s.size ≤ 200)) := by
  have := nPri_l s hs s.size 0 rfl
  simpa [node_printable.f] using this
theorem shape_ev (kd : Int) (s : ByteArray) (cols : Int) (n : Nat) (hs : s.size ≤ M) : Ev (fun k => shapeF k kd s cols n) (shp kd s cols n) := by
  unfold shapeF shp
  by_cases h1 : kd = 1
  · simp only [h1, if_true]; exact Ev.now _
  by_cases h12 : kd = 12
  · simp only [h1, h12, if_true, if_false]; exact Ev.now _
  by_cases h2 : kd = 2
  · simp only [h1, h12, h2, if_true, if_false]; exact ev_bind (nSym_ev s hs) (Ev.now _)
  by_cases h3 : kd = 3
  · simp only [h1, h12, h2, h3, if_true, if_false]; exact ev_bind (ev_some (nNum_eq s hs)) (Ev.now _)
  by_cases h4 : kd = 4
  · simp only [h1, h12, h2, h3, h4, if_true, if_false]; exact ev_bind (nPri_ev s hs) (Ev.now _)
  by_cases h10 : kd = 10
  · simp only [h1, h12, h2, h3, h4, h10, if_true, if_false]; exact ev_bind (nAcc_ev s) (Ev.now _)
  by_cases h11 : kd = 11
  · simp only [h1, h12, h2, h3, h4, h10, h11, if_true, if_false]; exact ev_bind (ev_some (nFen_eq s)) (Ev.now _)
  simp only [h1, h12, h2, h3, h4, h10, h11, if_false]
  by_cases h9 : kd = 9
  · simp only [h9, if_true]; exact Ev.now _
  simp only [h9, if_false]
  by_cases h5 : 5 ≤ kd ∧ kd ≤ 8
  · simp only [h5, and_self, if_true]; exact Ev.now _
  · simp only [h5, if_false]; exact Ev.now _
end Go.Proofs.YthdppkmmfjaiaaaDoor.G.Pure
namespace Go.Proofs.YthdppkmmfjaiaaaDoor.G
open Go.RowKit Go.Proofs.YthdppkmmfjaiaaaDoorW.PrintWords Go.Proofs.YthdppkmmfjaiaaaDoorW.PrintLast Go.Proofs.YthdppkmmfjaiaaaDoorW.PrintMore
attribute [local go_sem] max2_int min2_int max_two min_two max_three min_three max_four min_four
set_option linter.unusedVariables false
set_option linter.unusedSimpArgs false
section cnt
mutual

def cnt : S25 → Nat
  | ⟨_, _, _, l⟩ => 1 + cntL l
def cntL : List S25 → Nat
  | [] => 0
  | x :: l => cnt x + cntL l
end
theorem cnt_eq (x : S25) : cnt x = 1 + cntL x.f3 := by cases x; simp [cnt]
theorem cntL_mem : ∀ {l : List S25} {x : S25}, x ∈ l → cnt x ≤ cntL l
  | y :: l, x, h => by
    rw [cntL]
    rcases List.mem_cons.1 h with rfl | h
    · omega
    · have := cntL_mem h; omega
end cnt
end Go.Proofs.YthdppkmmfjaiaaaDoor.G
namespace Go.Proofs.YthdppkmmfjaiaaaDoor.G.Pure
open Go.Proofs.YthdppkmmfjaiaaaDoorW.PrintWords Go.RowKit
set_option linter.unusedVariables false
set_option linter.unusedSimpArgs false
mutual
def formB : S25 → Bool
  | ⟨k, s, c, l⟩ => shp k s c l.length && formL (k == 1) l
def formL (row : Bool) : List S25 → Bool
  | [] => true
  | y :: l => !((y.f0 == 1) == row) && formB y && formL row l
end
mutual
def dep : S25 → Nat
  | ⟨_, _, _, l⟩ => 1 + depL l
def depL : List S25 → Nat
  | [] => 0
  | y :: l => max (dep y) (depL l)
end
theorem formB_eq (x : S25) : formB x = (shp x.f0 x.f1 x.f2 x.f3.length && formL (x.f0 == 1) x.f3) := by cases x; simp [formB]
theorem dep_eq (x : S25) : dep x = 1 + depL x.f3 := by cases x; simp [dep]
theorem rdT_at (l : List S25) (i : Nat) (h : i < l.length) : rd_T25 l i = l[i] := by simp [rd_T25, h]
theorem ok_open {x : S25} (h : OkNode x) : x.f1.size ≤ M ∧ x.f3.length ≤ M ∧ ∀ y ∈ x.f3, OkNode y := by
  cases h with
  | mk x h0 h1 h2 hl h3 => exact ⟨h1, hl, h3⟩
theorem cnt_pos (x : S25) : 1 ≤ cnt x := by rw [cnt_eq]; omega
theorem cntL_drop {l : List S25} {i : Nat} (h : i < l.length) : cntL (l.drop i) = cnt l[i] + cntL (l.drop (i + 1)) := by
  rw [List.drop_eq_getElem_cons h, cntL]
mutual
def lft : S25 → Int → Int
  | ⟨_, _, _, l⟩, m => lftL l (m - 1)
def lftL : List S25 → Int → Int
  | [], m => m
  | y :: l, m => if m ≥ 0 then lftL l (lft y m) else m
end
theorem lft_eq (x : S25) (m : Int) : lft x m = lftL x.f3 (m - 1) := by cases x; simp [lft]
theorem lft_spec : ∀ (n : Nat) (x : S25), cnt x ≤ n → ∀ m : Int, 0 ≤ m → ((cnt x : Int) ≤ m → lft x m = m - cnt x) ∧ (¬ (cnt x : Int) ≤ m → lft x m < 0) ∧ -1 ≤ lft x m ∧ lft x m ≤ m := by
  intro n
  induction n with
  | zero => intro x h; have := cnt_pos x; omega
  | succ n ih =>
    intro x hn m hm
    rw [cnt_eq] at hn ⊢
    have loop : ∀ (l : List S25) (q : Int), cntL l ≤ n → -1 ≤ q → (((cntL l : Int) ≤ q ∧ 0 ≤ q) → lftL l q = q - cntL l) ∧ (¬ ((cntL l : Int) ≤ q ∧ 0 ≤ q) → lftL l q < 0) ∧ -1 ≤ lftL l q ∧ lftL l q ≤ q := by
      intro l
      induction l with
      | nil => intro q _ hq; simp only [lftL, cntL]; refine ⟨fun h => by simp, fun h => by simp at h; omega, hq, by omega⟩
      | cons y l ihl =>
        intro q hc hq
        rw [cntL] at hc ⊢
        rw [lftL]
        by_cases h0 : q ≥ 0
        · rw [if_pos h0]
          obtain ⟨a1, a2, a3, a4⟩ := ih y (by omega) q h0
          obtain ⟨b1, b2, b3, b4⟩ := ihl (lft y q) (by omega) a3
          refine ⟨fun h => ?_, fun h => ?_, b3, by omega⟩
          · have e := a1 (by omega)
            rw [b1 ⟨by omega, by omega⟩, e]; push_cast; omega
          · by_cases hy : (cnt y : Int) ≤ q
            · have e := a1 hy
              refine b2 fun h2 => h ⟨?_, h0⟩
              push_cast
              omega
            · have := a2 hy; omega
        · rw [if_neg h0]
          refine ⟨fun h => by omega, fun h => by omega, hq, by omega⟩
    rw [lft_eq]
    obtain ⟨a1, a2, a3, a4⟩ := loop x.f3 (m - 1) (by omega) (by omega)
    refine ⟨fun h => ?_, fun h => ?_, a3, by omega⟩
    · rw [a1 ⟨by omega, by omega⟩]; push_cast; omega
    · exact a2 fun h2 => h (by push_cast; omega)
theorem left_ev : ∀ (n : Nat) (x : S25), cnt x ≤ n → OkNode x → ∀ m : Int, 0 ≤ m → m ≤ 1000000 → Ev (fun k => vinculumref09_left.f k x.f0 x.f1 x.f2 x.f3 m) (lft x m) := by
  intro n
  induction n with
  | zero => intro x h; have := cnt_pos x; omega
  | succ n ih =>
    intro x hn hx m hm0 hm
    obtain ⟨h1, h2, h3⟩ := ok_open hx
    unfold M at h2
    rw [cnt_eq] at hn
    have loop : ∀ (q i : Nat) (a : Int), x.f3.length - i = q → cntL (x.f3.drop i) ≤ n → -1 ≤ a → a ≤ 1000000 → Ev (fun k => vinculumref09_left.l0 k a i x.f0 x.f1 x.f2 x.f3) (lftL (x.f3.drop i) a) := by
      intro q
      induction q with
      | zero =>
        intro i a hi _ _ _
        refine Ev.step (fun k => by rw [vinculumref09_left.l0]) ?_
        refine ev_if (fun h => by omega) fun _ => ev_now ?_
        rw [List.drop_eq_nil_of_le (by omega), lftL]
      | succ q ihq =>
        intro i a hi hc ha ha2
        have hil : i < x.f3.length := by omega
        rw [cntL_drop hil] at hc
        refine Ev.step (fun k => by rw [vinculumref09_left.l0]) ?_
        refine ev_if (fun _ => ?_) fun h => by omega
        rw [List.drop_eq_getElem_cons hil, lftL]
        refine ev_if (fun h => ?_) fun h => ev_now ?_
        · refine ev_if (fun _ => ?_) fun h => by omega
          rw [if_pos h, rdT_at _ _ hil]
          refine ev_bind (ih x.f3[i] (by omega) (h3 _ (List.getElem_mem hil)) a h ha2) ?_
          rw [wr (n := (i : Int) + 1) (by omega)]
          obtain ⟨_, _, s3, s4⟩ := lft_spec n x.f3[i] (by omega) a h
          have := ihq (i + 1) (lft x.f3[i] a) (by omega) (by omega) s3 (by omega)
          exact_mod_cast this
        · rw [if_neg h]
    refine Ev.step (fun k => by rw [vinculumref09_left.f]) ?_
    rw [lft_eq, wr (n := m - 1) (by omega)]
    have := loop x.f3.length 0 (m - 1) rfl (by simp; omega) (by omega) (by omega)
    simpa using this
theorem few_ev (x : S25) (hx : OkNode x) (m : Int) (h0 : 0 ≤ m) (h1 : m ≤ 1000000) : Ev (fun k => vinculumref09_Few.f k x.f0 x.f1 x.f2 x.f3 m) (decide ((cnt x : Int) ≤ m)) := by
  unfold vinculumref09_Few.f
  refine ev_bind (left_ev (cnt x) x (Nat.le_refl _) hx m h0 h1) (ev_now ?_)
  obtain ⟨a1, a2, _, _⟩ := lft_spec (cnt x) x (Nat.le_refl _) m h0
  rw [decide_eq_decide]
  by_cases h : (cnt x : Int) ≤ m
  · rw [a1 h]; omega
  · have := a2 h; omega
def validB (x : S25) : Bool := x.f0 == 1 && formB x && decide (cnt x ≤ 1000) && decide (dep x ≤ 24)
theorem chk_ev : ∀ (d : Nat) (x : S25) (l : Int), OkNode x → 0 ≤ l → l ≤ 1000000 → ∃ r, Ev (fun k => chk k d l x) r ∧ (r.1 = true → formB x = true ∧ (cnt x : Int) ≤ l ∧ dep x ≤ d ∧ r.2 = l - cnt x) ∧ (formB x = true ∧ (cnt x : Int) ≤ l ∧ dep x ≤ d → r.1 = true) := by
  intro d
  induction d with
  | zero =>
    intro x l hx h0 h1
    refine ⟨(false, l - 1), Ev.now _, fun h => by simp at h, fun h => ?_⟩
    have := dep_eq x
    omega
  | succ d ih =>
    intro x l hx h0 h1
    obtain ⟨o1, o2, o3⟩ := ok_open hx
    have loop : ∀ (ys : List S25) (q : Int), (∀ y ∈ ys, OkNode y) → 0 ≤ q → q ≤ 1000000 → ∃ r, Ev (fun k => chkL (chk k d) (x.f0 == 1) ys q) r ∧ (r.1 = true → formL (x.f0 == 1) ys = true ∧ (cntL ys : Int) ≤ q ∧ depL ys ≤ d ∧ r.2 = q - cntL ys) ∧ (formL (x.f0 == 1) ys = true ∧ (cntL ys : Int) ≤ q ∧ depL ys ≤ d → r.1 = true) := by
      intro ys
      induction ys with
      | nil =>
        intro q _ hq hq1
        refine ⟨(true, q), ?_, fun _ => ⟨rfl, by simp [cntL]; omega, by simp [depL], by simp [cntL]⟩, fun _ => rfl⟩
        simp only [chkL]; exact Ev.now _
      | cons y ys ihy =>
        intro q hy hq hq1
        simp only [chkL, formL, cntL, depL]
        by_cases hr : (y.f0 == 1) == (x.f0 == 1)
        · refine ⟨(false, q), ?_, fun h => by simp at h, fun h => ?_⟩
          · simp only [hr, if_true]; exact Ev.now _
          · rw [hr] at h; simp at h
        · rw [Bool.not_eq_true] at hr
          simp only [hr, Bool.false_eq_true, if_false, Bool.not_false, Bool.true_and]
          obtain ⟨⟨b, q2⟩, e1, e2, e3⟩ := ih y q (hy y (by simp)) hq hq1
          cases b with
          | false =>
            refine ⟨(false, q2), ev_bind e1 (Ev.now _), fun h => by simp at h, fun h => ?_⟩
            obtain ⟨g1, g2, g3⟩ := h
            rw [Bool.and_eq_true] at g1
            have := e3 ⟨g1.1, by push_cast at g2; omega, by omega⟩
            simp at this
          | true =>
            obtain ⟨f1, f2, f3, f4⟩ := e2 rfl
            simp only at f4
            have := cnt_pos y
            obtain ⟨r, g1, g2, g3⟩ := ihy q2 (fun z hz => hy z (by simp [hz])) (by omega) (by omega)
            refine ⟨r, ev_bind e1 g1, fun h => ?_, fun h => ?_⟩
            · obtain ⟨i1, i2, i3, i4⟩ := g2 h
              refine ⟨by rw [f1, i1]; rfl, by push_cast; omega, by omega, by push_cast; omega⟩
            · obtain ⟨i1, i2, i3⟩ := h
              rw [Bool.and_eq_true] at i1
              exact g3 ⟨i1.2, by push_cast at i2; omega, by omega⟩
    have hcp := cnt_pos x
    simp only [chk]
    by_cases hl : l - 1 < 0
    · refine ⟨(false, l - 1), by simp only [hl, if_true]; exact Ev.now _, fun h => by simp at h, fun h => by omega⟩
    · simp only [hl, if_false]
      rw [formB_eq, cnt_eq, dep_eq]
      have hs := shape_ev x.f0 x.f1 x.f2 x.f3.length o1
      cases hsh : shp x.f0 x.f1 x.f2 x.f3.length with
      | false =>
        rw [hsh] at hs
        refine ⟨(false, l - 1), ev_bind hs (Ev.now _), fun h => by simp at h, fun h => by simp at h⟩
      | true =>
        rw [hsh] at hs
        obtain ⟨r, g1, g2, g3⟩ := loop x.f3 (l - 1) o3 (by omega) (by omega)
        refine ⟨r, ev_bind hs g1, fun h => ?_, fun h => ?_⟩
        · obtain ⟨i1, i2, i3, i4⟩ := g2 h
          refine ⟨by rw [i1]; rfl, by push_cast; omega, by omega, by push_cast; omega⟩
        · obtain ⟨i1, i2, i3⟩ := h
          rw [Bool.true_and] at i1
          exact g3 ⟨i1, by push_cast at i2; omega, by omega⟩
theorem node_eta (x : S25) : (⟨x.f0, x.f1, x.f2, x.f3⟩ : S25) = x := by cases x; rfl
theorem nValid_ev (x : S25) (hx : OkNode x) : Ev (fun k => node_Valid.f k x.f0 x.f1 x.f2 x.f3) (validB x) := by
  unfold node_Valid.f validB
  simp only [node_eta]
  refine ev_if (fun h => ?_) fun h => ev_now ?_
  · obtain ⟨r, e1, e2, e3⟩ := chk_ev 24 x 1000 hx (by omega) (by omega)
    refine ev_bind (f := fun _ r => some r.1) e1 (ev_now ?_)
    rw [h]
    rw [Bool.eq_iff_iff]
    simp only [beq_self_eq_true, Bool.true_and, Bool.and_eq_true, decide_eq_true_eq]
    constructor
    · intro hr; obtain ⟨i1, i2, i3, _⟩ := e2 hr; exact ⟨⟨i1, by omega⟩, i3⟩
    · rintro ⟨⟨i1, i2⟩, i3⟩; exact e3 ⟨i1, by omega, i3⟩
  · rw [beq_eq_false_iff_ne.2 h]; rfl
end Go.Proofs.YthdppkmmfjaiaaaDoor.G.Pure
namespace Go.Proofs.YthdppkmmfjaiaaaDoor.G
open Go.RowKit Go.Proofs.YthdppkmmfjaiaaaDoorW.PrintWords Go.Proofs.YthdppkmmfjaiaaaDoorW.PrintLast Go.Proofs.YthdppkmmfjaiaaaDoorW.PrintMore
attribute [local go_sem] max2_int min2_int max_two min_two max_three min_three max_four min_four
set_option linter.unusedVariables false
set_option linter.unusedSimpArgs false
def vinculumref08_Find.l0 : Nat → List (S59) → ByteArray → Int → Option (ByteArray × Int × Bool × Bool)
  | 0, _, _, _ => none
  | k + 1, x0, x1, x5 => if x5 < (x0.length : Int) then (if 0 ≤ x5 then (if ((rd_T59 x0 x5).f0).toList = x1.toList then (some ((rd_T59 x0 x5).f0, (rd_T59 x0 x5).f1, (rd_T59 x0 x5).f2, (rd_T59 x0 x5).f3)) else (vinculumref08_Find.l0 k x0 x1 (wrap64 (x5 + 1)))) else (none)) else (some (x1, 0, false, false))
def vinculumref08_Find.f (k : Nat) (l0 : List (S59)) (a1 : ByteArray) : Option (ByteArray × Int × Bool × Bool) := vinculumref08_Find.l0 k l0 a1 0
set_option maxHeartbeats 8000000 in
set_option maxRecDepth 100000 in
theorem vinculumref08_Find.calls (k : Nat) (A0 : Option Addr) (c0 : Nat) (l0 : List (S59)) (a1 : ByteArray) (r1 : ByteArray) (r2 : Int) (r3 : Bool) (r4 : Bool) (w : World) (hr0 : Kd.C k59 w A0 l0.length l0) (hc0 : l0.length ≤ c0) (h : vinculumref08_Find.f k l0 a1 = some (r1, r2, r3, r4)) :
    Calls Tryd.prog 25 #[.slice A0 l0.length c0, .string a1] w fun e w' => e = .returned (.agg #[.string r1, .int .i64 r2, .bool r3, .bool r4]) ∧ Below w.heap.size w w' := by
  have hu59 := Tryd.underlying59
  have HR0 := Aside0.mk hr0
  have HC0 := Aside0.mk hc0
  clear hr0 hc0
  have HB := Aside0.mk (Below.refl w.heap.size w)
  have H : (vinculumref08_Find.l0 k l0 a1 0) = some (r1, r2, r3, r4) := h
  clear h
  have H' := Aside0.mk H
  clear H
  go_enter Tryd.func25, Tryd.ntmps25
  go_wp2_with (first | ((with_reducible refine gate_dst (N := 4) rfl ?_); refine box_event ?hg (N := 4) ?hd (cs := #[.string (⟨#[]⟩ : ByteArray), .int .i64 0, .bool false, .bool false]) (t := 59) ?hr ?_; (case hd => rfl); (case hg => rfl); (case hr => first | (go_simp; done) | (go_simp; rfl)); intro gb272 hg w3 hbox hb; have n0_ := Aside0.mk (below_step (by repeat (first | (with_reducible first | exact HB.out | apply below_alloc | apply pw_below_drewN | apply below_drew1) | exact HB.out)) hb); have n1_ := Aside0.mk (hbox); have n2_ := Aside0.mk ((by rw [hg]; exact (below_size (by repeat (first | (with_reducible first | exact HB.out | apply below_alloc | apply pw_below_drewN | apply below_drew1) | exact HB.out))) : w.heap.size ≤ gb272)); have n3_ := Aside0.mk ((by rw [hg]; exact (below_size (by repeat (first | (with_reducible first | exact HB.out | apply below_alloc | apply pw_below_drewN | apply below_drew1) | exact HB.out))) : w.heap.size ≤ gb272)); clear HB; have HB := n0_; have BK272 := n1_; have GW272 := n2_; have GE272 := n3_; clear n0_ n1_ n2_ n3_; clear hb hbox hg))
  go_loopg [5] k (fun kq v5 w' => ∃ (x5_1 : Int) (x273000_1 : ByteArray) (x273001_1 : Int) (x273002_1 : Bool) (x273003_1 : Bool), v5 = .int .i64 x5_1 ∧ Aside0 (vinculumref08_Find.l0 kq l0 a1 x5_1 = some (r1, r2, r3, r4)) ∧ Aside0 (kq ≤ k) ∧ Aside0 (w'.heap[gb272]? = some (.cells #[.string x273000_1, .int .i64 x273001_1, .bool x273002_1, .bool x273003_1] 59 (0, 0))) ∧ Aside0 (Below w.heap.size w w'))
  case atStart => exact ⟨(0), ((⟨#[]⟩ : ByteArray)), (0), (false), (false), (by first | rfl | (simp; done) | (simp [*]; done)), H', ⟨Nat.le_refl _⟩, ⟨by (with_reducible repeat (first | refine blk_drewN ?_ _ | refine blk_drew ?_ | refine blk_alloc ?_ _)); exact BK272.out⟩, ⟨by repeat (first | (with_reducible first | exact HB.out | apply below_alloc | apply pw_below_drewN | apply below_drew1 | refine below_set ?_ GE272.out) | exact HB.out)⟩⟩
  case round =>
    clear H'
    try clear c2
    try clear p2
    obtain ⟨x5_1, x273000_1, x273001_1, x273002_1, x273003_1, rfl, HA, HK1, BK272, HB⟩ := hrel
    cases gk with
    | zero => exact absurd HA.out (by simp [vinculumref08_Find.l0])
    | succ k1 =>
      have H := HA.out
      clear HA
      simp only [vinculumref08_Find.l0] at H
      by_cases c4 : x5_1 < (l0.length : Int)
      · rw [if_pos c4] at H
        have c4b0 : decide (x5_1 < (l0.length : Int)) = true := decide_eq_true c4
        clear c4
        by_cases c5 : 0 ≤ x5_1
        · rw [if_pos c5] at H
          have c5b0 : decide (0 ≤ x5_1) = true := decide_eq_true c5
          clear c5
          by_cases c6 : ((rd_T59 l0 x5_1).f0).toList = a1.toList
          · rw [if_pos c6] at H
            have c6b0 : (((rd_T59 l0 x5_1).f0).toList == a1.toList) = true := beq_iff_eq.mpr c6
            have c6b1 : (((rd_T59 l0 x5_1).f0).toList != a1.toList) = false := bne_eq_false_iff_eq.mpr c6
            clear c6
            simp only [Option.some.injEq, Prod.mk.injEq] at H
            obtain ⟨rfl, rfl, rfl, rfl⟩ := H
            have p273 : 0 ≤ (x5_1 : Int) := of_decide_eq_true (by first | (with_reducible assumption) | assumption)
            have q273 : x5_1 < (l0.length : Int) := of_decide_eq_true (by first | (with_reducible assumption) | assumption)
            obtain ⟨ad273, e273, hx273_0, hx273_1, hx273_2, hx273_3⟩ := at_T59 HR0.out x5_1 p273 q273
            cases e273
            replace hx273_0 := (HB.out.cell (World.block_lt_of_cell? w _ hx273_0)).trans hx273_0
            replace hx273_1 := (HB.out.cell (World.block_lt_of_cell? w _ hx273_1)).trans hx273_1
            replace hx273_2 := (HB.out.cell (World.block_lt_of_cell? w _ hx273_2)).trans hx273_2
            replace hx273_3 := (HB.out.cell (World.block_lt_of_cell? w _ hx273_3)).trans hx273_3
            replace p273 := eq_true p273
            replace q273 := eq_true q273
            have p274 : 0 ≤ (x5_1 : Int) := of_decide_eq_true (by first | (with_reducible assumption) | assumption)
            have q274 : x5_1 < (l0.length : Int) := of_decide_eq_true (by first | (with_reducible assumption) | assumption)
            obtain ⟨ad274, e274, hx274_0, hx274_1, hx274_2, hx274_3⟩ := at_T59 HR0.out x5_1 p274 q274
            obtain rfl : ad273 = ad274 := (by injection e274)
            replace hx274_0 := (HB.out.cell (World.block_lt_of_cell? w _ hx274_0)).trans hx274_0
            replace hx274_1 := (HB.out.cell (World.block_lt_of_cell? w _ hx274_1)).trans hx274_1
            replace hx274_2 := (HB.out.cell (World.block_lt_of_cell? w _ hx274_2)).trans hx274_2
            replace hx274_3 := (HB.out.cell (World.block_lt_of_cell? w _ hx274_3)).trans hx274_3
            replace p274 := eq_true p274
            replace q274 := eq_true q274
            have hcz7_0 : wr.cell? ⟨gb272, 0, none⟩ = some (.string x273000_1) := (blk_cell BK272.out 0).trans rfl
            have hcz7_1 : wr.cell? ⟨gb272, 1, none⟩ = some (.int .i64 x273001_1) := (blk_cell BK272.out 1).trans rfl
            have hcz7_2 : wr.cell? ⟨gb272, 2, none⟩ = some (.bool x273002_1) := (blk_cell BK272.out 2).trans rfl
            have hcz7_3 : wr.cell? ⟨gb272, 3, none⟩ = some (.bool x273003_1) := (blk_cell BK272.out 3).trans rfl
            have hfz7_0 := blk_frozen BK272.out 0
            have hfz7_1 := blk_frozen BK272.out 1
            have hfz7_2 := blk_frozen BK272.out 2
            have hfz7_3 := blk_frozen BK272.out 3
            go_wp2
            refine bodyPost_ret (results_cell_row rfl _ _ gb272 59 #[.string ((rd_T59 l0 x5_1).f0), .int .i64 ((rd_T59 l0 x5_1).f1), .bool ((rd_T59 l0 x5_1).f2), .bool ((rd_T59 l0 x5_1).f3)] (0, 0) _ rfl (by (with_reducible repeat (first | refine blk_drewN ?_ _ | refine blk_drew ?_ | refine blk_alloc ?_ _)); refine blk_put (cs := #[.string ((rd_T59 l0 x5_1).f0), .int .i64 ((rd_T59 l0 x5_1).f1), .bool ((rd_T59 l0 x5_1).f2), .bool x273003_1]) ?_ 3 _ rfl; (with_reducible repeat (first | refine blk_drewN ?_ _ | refine blk_drew ?_ | refine blk_alloc ?_ _)); refine blk_put (cs := #[.string ((rd_T59 l0 x5_1).f0), .int .i64 ((rd_T59 l0 x5_1).f1), .bool x273002_1, .bool x273003_1]) ?_ 2 _ rfl; (with_reducible repeat (first | refine blk_drewN ?_ _ | refine blk_drew ?_ | refine blk_alloc ?_ _)); refine blk_put (cs := #[.string ((rd_T59 l0 x5_1).f0), .int .i64 x273001_1, .bool x273002_1, .bool x273003_1]) ?_ 1 _ rfl; (with_reducible repeat (first | refine blk_drewN ?_ _ | refine blk_drew ?_ | refine blk_alloc ?_ _)); refine blk_put (cs := #[.string x273000_1, .int .i64 x273001_1, .bool x273002_1, .bool x273003_1]) ?_ 0 _ rfl; (with_reducible repeat (first | refine blk_drewN ?_ _ | refine blk_drew ?_ | refine blk_alloc ?_ _)); exact BK272.out) Tryd.underlying59 rfl (by kernel_rfl)) rfl ?_
            exact ⟨by first | rfl | (simp [errW_none, errW_some] <;> rfl) | (simp [*, errW_none, errW_some] <;> rfl), by repeat (first | (with_reducible first | exact HB.out | apply below_alloc | apply pw_below_drewN | apply below_drew1 | refine below_set ?_ GE272.out) | exact HB.out)⟩
          · rw [if_neg c6] at H
            have c6b0 : (((rd_T59 l0 x5_1).f0).toList == a1.toList) = false := beq_eq_false_iff_ne.mpr c6
            have c6b1 : (((rd_T59 l0 x5_1).f0).toList != a1.toList) = true := bne_iff_ne.mpr c6
            have H' := Aside0.mk H
            clear H
            have p273 : 0 ≤ (x5_1 : Int) := of_decide_eq_true (by first | (with_reducible assumption) | assumption)
            have q273 : x5_1 < (l0.length : Int) := of_decide_eq_true (by first | (with_reducible assumption) | assumption)
            obtain ⟨ad273, e273, hx273_0, hx273_1, hx273_2, hx273_3⟩ := at_T59 HR0.out x5_1 p273 q273
            cases e273
            replace hx273_0 := (HB.out.cell (World.block_lt_of_cell? w _ hx273_0)).trans hx273_0
            replace hx273_1 := (HB.out.cell (World.block_lt_of_cell? w _ hx273_1)).trans hx273_1
            replace hx273_2 := (HB.out.cell (World.block_lt_of_cell? w _ hx273_2)).trans hx273_2
            replace hx273_3 := (HB.out.cell (World.block_lt_of_cell? w _ hx273_3)).trans hx273_3
            replace p273 := eq_true p273
            replace q273 := eq_true q273
            go_wp2
            go_roundg k1
            case measure => have := HK1.out; omega
            case rel => exact ⟨(wrap64 (x5_1 + 1)), (x273000_1), (x273001_1), (x273002_1), (x273003_1), (by first | rfl | (simp; done) | (simp [*]; done)), H', ⟨by have := HK1.out; omega⟩, ⟨by (with_reducible repeat (first | refine blk_drewN ?_ _ | refine blk_drew ?_ | refine blk_alloc ?_ _)); exact BK272.out⟩, ⟨by repeat (first | (with_reducible first | exact HB.out | apply below_alloc | apply pw_below_drewN | apply below_drew1 | refine below_set ?_ GE272.out) | exact HB.out)⟩⟩
        · rw [if_neg c5] at H
          exact absurd H (by simp)
      · rw [if_neg c4] at H
        have c4b0 : decide (x5_1 < (l0.length : Int)) = false := decide_eq_false c4
        clear c4
        simp only [Option.some.injEq, Prod.mk.injEq] at H
        obtain ⟨rfl, rfl, rfl, rfl⟩ := H
        have hcz8_0 : wr.cell? ⟨gb272, 0, none⟩ = some (.string x273000_1) := (blk_cell BK272.out 0).trans rfl
        have hcz8_1 : wr.cell? ⟨gb272, 1, none⟩ = some (.int .i64 x273001_1) := (blk_cell BK272.out 1).trans rfl
        have hcz8_2 : wr.cell? ⟨gb272, 2, none⟩ = some (.bool x273002_1) := (blk_cell BK272.out 2).trans rfl
        have hcz8_3 : wr.cell? ⟨gb272, 3, none⟩ = some (.bool x273003_1) := (blk_cell BK272.out 3).trans rfl
        have hfz8_0 := blk_frozen BK272.out 0
        have hfz8_1 := blk_frozen BK272.out 1
        have hfz8_2 := blk_frozen BK272.out 2
        have hfz8_3 := blk_frozen BK272.out 3
        go_wp2
        refine bodyPost_ret (results_cell_row rfl _ _ gb272 59 #[.string a1, .int .i64 0, .bool false, .bool false] (0, 0) _ rfl (by (with_reducible repeat (first | refine blk_drewN ?_ _ | refine blk_drew ?_ | refine blk_alloc ?_ _)); refine blk_put (cs := #[.string a1, .int .i64 0, .bool false, .bool x273003_1]) ?_ 3 _ rfl; (with_reducible repeat (first | refine blk_drewN ?_ _ | refine blk_drew ?_ | refine blk_alloc ?_ _)); refine blk_put (cs := #[.string a1, .int .i64 0, .bool x273002_1, .bool x273003_1]) ?_ 2 _ rfl; (with_reducible repeat (first | refine blk_drewN ?_ _ | refine blk_drew ?_ | refine blk_alloc ?_ _)); refine blk_put (cs := #[.string a1, .int .i64 x273001_1, .bool x273002_1, .bool x273003_1]) ?_ 1 _ rfl; (with_reducible repeat (first | refine blk_drewN ?_ _ | refine blk_drew ?_ | refine blk_alloc ?_ _)); refine blk_put (cs := #[.string x273000_1, .int .i64 x273001_1, .bool x273002_1, .bool x273003_1]) ?_ 0 _ rfl; (with_reducible repeat (first | refine blk_drewN ?_ _ | refine blk_drew ?_ | refine blk_alloc ?_ _)); exact BK272.out) Tryd.underlying59 rfl (by kernel_rfl)) rfl ?_
        exact ⟨by first | rfl | (simp [errW_none, errW_some] <;> rfl) | (simp [*, errW_none, errW_some] <;> rfl), by repeat (first | (with_reducible first | exact HB.out | apply below_alloc | apply pw_below_drewN | apply below_drew1 | refine below_set ?_ GE272.out) | exact HB.out)⟩
end Go.Proofs.YthdppkmmfjaiaaaDoor.G
