-- Written by pack.py, a program of this session: this session's texts and those that the kit's printer wrote for this claim, pruned to what the claim uses.
import Derived.Test.YtagkhoeidjlahaaDoorCPositionNext5
namespace Go.Proofs.YtagkhoeidjlahaaDoor.G
open Go.RowKit Go.Proofs.YtagkhoeidjlahaaDoorW.PrintWords Go.Proofs.YtagkhoeidjlahaaDoorW.PrintLast Go.Proofs.YtagkhoeidjlahaaDoorW.PrintMore
attribute [local go_sem] max2_int min2_int max_two min_two max_three min_three max_four min_four
set_option linter.unusedVariables false
set_option linter.unusedSimpArgs false
def vinculumref10_At.f (k : Nat) (a0_0 : Int) (a0_1 : ByteArray) (a0_2 : Int) (l0_3 : List (S36)) (a1 : Int) : Option (List Int × Int) := (vinculumref10_All.f k a0_0 a0_1 a0_2 l0_3).bind fun bt481 => (if bt481.2 = 0 then (if a1 < 0 then (some (([] : List Int), 2)) else (if a1 ≥ (bt481.1.length : Int) then (some (([] : List Int), 2)) else (if 0 ≤ a1 then (if a1 < (bt481.1.length : Int) then (some (rd_L5 bt481.1 a1, 0)) else (none)) else (none)))) else (some (([] : List Int), bt481.2)))
theorem vinculumref10_At.mono : ∀ a0 a1 a2 a3 a4 k, LeO (vinculumref10_At.f k a0 a1 a2 a3 a4) (vinculumref10_At.f (k + 1) a0 a1 a2 a3 a4) := by
  intro a0 a1 a2 a3 a4 k
  unfold vinculumref10_At.f
  repeat' first
      | (with_reducible exact vinculumref10_All.mono _ _ _ _ _)
      | (with_reducible exact LeO.refl _)
      | (with_reducible exact LeO.none _)
      | (with_reducible refine LeO.ite ?_ ?_)
      | (with_reducible refine LeO.bind ?_ (fun _ => ?_))
      | exact vinculumref10_All.mono _ _ _ _ _
      | exact LeO.none _
      | refine LeO.ite ?_ ?_
      | refine LeO.bind ?_ (fun _ => ?_)
set_option maxHeartbeats 8000000 in
set_option maxRecDepth 100000 in
theorem vinculumref10_At.calls (k : Nat) (a0_0 : Int) (a0_1 : ByteArray) (a0_2 : Int) (A0_3 : Option Addr) (c0_3 : Nat) (l0_3 : List (S36)) (a1 : Int) (r1 : List Int) (r2 : Int) (w : World) (hr0_3 : Kd.C k36 w A0_3 l0_3.length l0_3) (hc0_3 : l0_3.length ≤ c0_3) (h : vinculumref10_At.f k a0_0 a0_1 a0_2 l0_3 a1 = some (r1, r2)) :
    Calls Tryd.prog 30 #[.agg #[.int .i64 a0_0, .string a0_1, .int .i64 a0_2, .slice A0_3 l0_3.length c0_3], .int .i64 a1] w fun e w' => ∃ v0_ : Value, e = .returned (.tuple #[v0_, .int .i64 r2]) ∧ Kd.V (Kd.int .i64) 3 w' w.heap.size (fun k_ => (w.heap.size ≤ k_)) v0_ r1 ∧ Below w.heap.size w w' := by
  have hu36 := Tryd.underlying36
  have HR0_3 := Aside0.mk hr0_3
  have HC0_3 := Aside0.mk hc0_3
  clear hr0_3 hc0_3
  have HB := Aside0.mk (Below.refl w.heap.size w)
  have H : ((vinculumref10_All.f k a0_0 a0_1 a0_2 l0_3).bind fun bt481 => (if bt481.2 = 0 then (if a1 < 0 then (some (([] : List Int), 2)) else (if a1 ≥ (bt481.1.length : Int) then (some (([] : List Int), 2)) else (if 0 ≤ a1 then (if a1 < (bt481.1.length : Int) then (some (rd_L5 bt481.1 a1, 0)) else (none)) else (none)))) else (some (([] : List Int), bt481.2)))) = some (r1, r2) := h
  clear h
  replace H := Option.bind_eq_some_iff.mp H
  obtain ⟨⟨t481, t484⟩, A30, H⟩ := H
  replace H : (if t484 = 0 then (if a1 < 0 then (some (([] : List Int), 2)) else (if a1 ≥ (t481.length : Int) then (some (([] : List Int), 2)) else (if 0 ≤ a1 then (if a1 < (t481.length : Int) then (some (rd_L5 t481 a1, 0)) else (none)) else (none)))) else (some (([] : List Int), t484))) = some (r1, r2) := H
  have A3 := Aside0.mk A30
  clear A30
  by_cases c4 : t484 = 0
  · rw [if_pos c4] at H
    have c4b0 : (t484 == 0) = true := beq_iff_eq.mpr c4
    have c4b1 : (t484 != 0) = false := bne_eq_false_iff_eq.mpr c4
    clear c4
    by_cases c5 : a1 < 0
    · rw [if_pos c5] at H
      have c5b0 : decide (a1 < 0) = true := decide_eq_true c5
      clear c5
      simp only [Option.some.injEq, Prod.mk.injEq] at H
      obtain ⟨rfl, rfl⟩ := H
      go_enter Tryd.func30, Tryd.ntmps30
      go_wp2_with (first | ((with_reducible refine gate_dst (N := 2) rfl ?_); (try (refine gate_guard (by rfl) ?_; dsimp only)); refine box_event ?hg (N := 2) ?hd (cs := #[.int .i64 a0_0, .string a0_1, .int .i64 a0_2, .slice A0_3 l0_3.length c0_3]) (t := 36) ?hr ?_; (case hd => rfl); (case hg => rfl); (case hr => first | (go_simp; done) | (go_simp; rfl)); intro gb480 hg w6 hbox hb; have n0_ := Aside0.mk (below_step (by repeat (first | (with_reducible first | exact HB.out | apply below_alloc | apply pw_below_drewN | apply below_drew1) | exact HB.out)) hb); have n1_ := Aside0.mk (hbox); have n2_ := Aside0.mk ((by rw [hg]; exact (below_size (by repeat (first | (with_reducible first | exact HB.out | apply below_alloc | apply pw_below_drewN | apply below_drew1) | exact HB.out))) : w.heap.size ≤ gb480)); have n3_ := Aside0.mk ((by rw [hg]; exact (below_size (by repeat (first | (with_reducible first | exact HB.out | apply below_alloc | apply pw_below_drewN | apply below_drew1) | exact HB.out))) : w.heap.size ≤ gb480)); clear HB; have HB := n0_; have BK480 := n1_; have GW480 := n2_; have GE480 := n3_; clear n0_ n1_ n2_ n3_; clear hb hbox hg; have hcz7_0 : w6.cell? ⟨gb480, 0, none⟩ = some (.int .i64 a0_0) := (blk_cell BK480.out 0).trans rfl; have hcz7_1 : w6.cell? ⟨gb480, 1, none⟩ = some (.string a0_1) := (blk_cell BK480.out 1).trans rfl; have hcz7_2 : w6.cell? ⟨gb480, 2, none⟩ = some (.int .i64 a0_2) := (blk_cell BK480.out 2).trans rfl; have hcz7_3 : w6.cell? ⟨gb480, 3, none⟩ = some (.slice A0_3 l0_3.length c0_3) := (blk_cell BK480.out 3).trans rfl; have hfz7_0 := blk_frozen BK480.out 0; have hfz7_1 := blk_frozen BK480.out 1; have hfz7_2 := blk_frozen BK480.out 2; have hfz7_3 := blk_frozen BK480.out 3) | ((with_reducible refine gate_callee (f := 38) rfl ?_); refine goesL_ (some 10) rfl rfl Tryd.func38 (by kernel_rfl) rfl #[.agg #[.int .i64 a0_0, .string a0_1, .int .i64 a0_2, .slice A0_3 l0_3.length c0_3]] rfl (by (try simp only [List.map_toArray, List.map_cons, List.map_nil]); first | done | rfl | (simp only [List.length_drop, List.length_take]; rfl)) ?_; (with_reducible refine (vinculumref10_All.calls k a0_0 a0_1 a0_2 _ _ l0_3 t481 t484 _ ?side1 ?side2 A3.out).mono ?_); (case side1 => repeat (first | exact (Kd.C_below HR0_3.out HB.out) | (with_reducible refine Kd.C_alloc ?_ _) | (with_reducible refine Kd.C_drewN ?_ _) | (with_reducible refine Kd.C_drew ?_))); (case side2 => exact HC0_3.out); rintro e w8 ⟨v482, rfl, ho0, hb⟩; refine ⟨_, rfl, ?_⟩; have n0_ := Aside0.mk (Kd.N_lower (Kd.N_mono (ok' := fun k_ => (w.heap.size ≤ k_) ∧ k_ ≠ gb480) ho0 (fun k_ hk_ => ⟨(Nat.le_trans (below_size (by repeat (first | (with_reducible first | exact HB.out | apply below_alloc | apply pw_below_drewN | apply below_drew1 | refine below_set ?_ GE480.out) | exact HB.out))) hk_), (Kd.freshB (g := gb480) (o := .cells #[.int .i64 a0_0, .string a0_1, .int .i64 a0_2, .slice A0_3 l0_3.length c0_3] 36 (0, 0)) (by (with_reducible repeat (first | refine blk_drewN ?_ _ | refine blk_drew ?_ | refine blk_alloc ?_ _)); exact BK480.out) k_ hk_)⟩)) (below_size (by repeat (first | (with_reducible first | exact HB.out | apply below_alloc | apply pw_below_drewN | apply below_drew1 | refine below_set ?_ GE480.out) | exact HB.out)))); have n1_ := Aside0.mk (blk_below (g := gb480) (o := .cells #[.int .i64 a0_0, .string a0_1, .int .i64 a0_2, .slice A0_3 l0_3.length c0_3] 36 (0, 0)) (by (with_reducible repeat (first | refine blk_drewN ?_ _ | refine blk_drew ?_ | refine blk_alloc ?_ _)); exact BK480.out) hb); have n2_ := Aside0.mk (below_step (by repeat (first | (with_reducible first | exact HB.out | apply below_alloc | apply pw_below_drewN | apply below_drew1 | refine below_set ?_ GE480.out) | exact HB.out)) hb); clear BK480; clear HB; have HO483 := n0_; have BK480 := n1_; have HB := n2_; clear n0_ n1_ n2_; (try clear hb); (try clear hb2); (try clear hk); (try clear hi); (try clear ho0)))
      go_ret2
      exact ⟨_, by first | rfl | (simp [errW_none, errW_some] <;> rfl) | (simp [*, errW_none, errW_some] <;> rfl), Kd.V_nil _ _ _ _ _, by repeat (first | (with_reducible first | exact HB.out | apply below_alloc | apply pw_below_drewN | apply below_drew1 | refine below_set ?_ GE480.out) | exact HB.out)⟩
    · rw [if_neg c5] at H
      have c5b0 : decide (a1 < 0) = false := decide_eq_false c5
      clear c5
      by_cases c9 : a1 ≥ (t481.length : Int)
      · rw [if_pos c9] at H
        have c9b0 : decide ((t481.length : Int) ≤ a1) = true := decide_eq_true c9
        clear c9
        simp only [Option.some.injEq, Prod.mk.injEq] at H
        obtain ⟨rfl, rfl⟩ := H
        go_enter Tryd.func30, Tryd.ntmps30
        go_wp2_with (first | ((with_reducible refine gate_dst (N := 2) rfl ?_); (try (refine gate_guard (by rfl) ?_; dsimp only)); refine box_event ?hg (N := 2) ?hd (cs := #[.int .i64 a0_0, .string a0_1, .int .i64 a0_2, .slice A0_3 l0_3.length c0_3]) (t := 36) ?hr ?_; (case hd => rfl); (case hg => rfl); (case hr => first | (go_simp; done) | (go_simp; rfl)); intro gb480 hg w10 hbox hb; have n0_ := Aside0.mk (below_step (by repeat (first | (with_reducible first | exact HB.out | apply below_alloc | apply pw_below_drewN | apply below_drew1) | exact HB.out)) hb); have n1_ := Aside0.mk (hbox); have n2_ := Aside0.mk ((by rw [hg]; exact (below_size (by repeat (first | (with_reducible first | exact HB.out | apply below_alloc | apply pw_below_drewN | apply below_drew1) | exact HB.out))) : w.heap.size ≤ gb480)); have n3_ := Aside0.mk ((by rw [hg]; exact (below_size (by repeat (first | (with_reducible first | exact HB.out | apply below_alloc | apply pw_below_drewN | apply below_drew1) | exact HB.out))) : w.heap.size ≤ gb480)); clear HB; have HB := n0_; have BK480 := n1_; have GW480 := n2_; have GE480 := n3_; clear n0_ n1_ n2_ n3_; clear hb hbox hg; have hcz11_0 : w10.cell? ⟨gb480, 0, none⟩ = some (.int .i64 a0_0) := (blk_cell BK480.out 0).trans rfl; have hcz11_1 : w10.cell? ⟨gb480, 1, none⟩ = some (.string a0_1) := (blk_cell BK480.out 1).trans rfl; have hcz11_2 : w10.cell? ⟨gb480, 2, none⟩ = some (.int .i64 a0_2) := (blk_cell BK480.out 2).trans rfl; have hcz11_3 : w10.cell? ⟨gb480, 3, none⟩ = some (.slice A0_3 l0_3.length c0_3) := (blk_cell BK480.out 3).trans rfl; have hfz11_0 := blk_frozen BK480.out 0; have hfz11_1 := blk_frozen BK480.out 1; have hfz11_2 := blk_frozen BK480.out 2; have hfz11_3 := blk_frozen BK480.out 3) | ((with_reducible refine gate_callee (f := 38) rfl ?_); refine goesL_ (some 10) rfl rfl Tryd.func38 (by kernel_rfl) rfl #[.agg #[.int .i64 a0_0, .string a0_1, .int .i64 a0_2, .slice A0_3 l0_3.length c0_3]] rfl (by (try simp only [List.map_toArray, List.map_cons, List.map_nil]); first | done | rfl | (simp only [List.length_drop, List.length_take]; rfl)) ?_; (with_reducible refine (vinculumref10_All.calls k a0_0 a0_1 a0_2 _ _ l0_3 t481 t484 _ ?side1 ?side2 A3.out).mono ?_); (case side1 => repeat (first | exact (Kd.C_below HR0_3.out HB.out) | (with_reducible refine Kd.C_alloc ?_ _) | (with_reducible refine Kd.C_drewN ?_ _) | (with_reducible refine Kd.C_drew ?_))); (case side2 => exact HC0_3.out); rintro e w12 ⟨v482, rfl, ho0, hb⟩; refine ⟨_, rfl, ?_⟩; have n0_ := Aside0.mk (Kd.N_lower (Kd.N_mono (ok' := fun k_ => (w.heap.size ≤ k_) ∧ k_ ≠ gb480) ho0 (fun k_ hk_ => ⟨(Nat.le_trans (below_size (by repeat (first | (with_reducible first | exact HB.out | apply below_alloc | apply pw_below_drewN | apply below_drew1 | refine below_set ?_ GE480.out) | exact HB.out))) hk_), (Kd.freshB (g := gb480) (o := .cells #[.int .i64 a0_0, .string a0_1, .int .i64 a0_2, .slice A0_3 l0_3.length c0_3] 36 (0, 0)) (by (with_reducible repeat (first | refine blk_drewN ?_ _ | refine blk_drew ?_ | refine blk_alloc ?_ _)); exact BK480.out) k_ hk_)⟩)) (below_size (by repeat (first | (with_reducible first | exact HB.out | apply below_alloc | apply pw_below_drewN | apply below_drew1 | refine below_set ?_ GE480.out) | exact HB.out)))); have n1_ := Aside0.mk (blk_below (g := gb480) (o := .cells #[.int .i64 a0_0, .string a0_1, .int .i64 a0_2, .slice A0_3 l0_3.length c0_3] 36 (0, 0)) (by (with_reducible repeat (first | refine blk_drewN ?_ _ | refine blk_drew ?_ | refine blk_alloc ?_ _)); exact BK480.out) hb); have n2_ := Aside0.mk (below_step (by repeat (first | (with_reducible first | exact HB.out | apply below_alloc | apply pw_below_drewN | apply below_drew1 | refine below_set ?_ GE480.out) | exact HB.out)) hb); clear BK480; clear HB; have HO483 := n0_; have BK480 := n1_; have HB := n2_; clear n0_ n1_ n2_; (try clear hb); (try clear hb2); (try clear hk); (try clear hi); (try clear ho0); obtain ⟨Ao13, co13, eo13⟩ := Kd.N_slice HO483.out; subst eo13))
        go_ret2
        exact ⟨_, by first | rfl | (simp [errW_none, errW_some] <;> rfl) | (simp [*, errW_none, errW_some] <;> rfl), Kd.V_nil _ _ _ _ _, by repeat (first | (with_reducible first | exact HB.out | apply below_alloc | apply pw_below_drewN | apply below_drew1 | refine below_set ?_ GE480.out) | exact HB.out)⟩
      · rw [if_neg c9] at H
        have c9b0 : decide ((t481.length : Int) ≤ a1) = false := decide_eq_false c9
        clear c9
        by_cases c14 : 0 ≤ a1
        · rw [if_pos c14] at H
          have c14b0 : decide (0 ≤ a1) = true := decide_eq_true c14
          clear c14
          by_cases c15 : a1 < (t481.length : Int)
          · rw [if_pos c15] at H
            have c15b0 : decide (a1 < (t481.length : Int)) = true := decide_eq_true c15
            clear c15
            simp only [Option.some.injEq, Prod.mk.injEq] at H
            obtain ⟨rfl, rfl⟩ := H
            go_enter Tryd.func30, Tryd.ntmps30
            go_wp2_with (first | ((with_reducible refine gate_dst (N := 2) rfl ?_); (try (refine gate_guard (by rfl) ?_; dsimp only)); refine box_event ?hg (N := 2) ?hd (cs := #[.int .i64 a0_0, .string a0_1, .int .i64 a0_2, .slice A0_3 l0_3.length c0_3]) (t := 36) ?hr ?_; (case hd => rfl); (case hg => rfl); (case hr => first | (go_simp; done) | (go_simp; rfl)); intro gb480 hg w16 hbox hb; have n0_ := Aside0.mk (below_step (by repeat (first | (with_reducible first | exact HB.out | apply below_alloc | apply pw_below_drewN | apply below_drew1) | exact HB.out)) hb); have n1_ := Aside0.mk (hbox); have n2_ := Aside0.mk ((by rw [hg]; exact (below_size (by repeat (first | (with_reducible first | exact HB.out | apply below_alloc | apply pw_below_drewN | apply below_drew1) | exact HB.out))) : w.heap.size ≤ gb480)); have n3_ := Aside0.mk ((by rw [hg]; exact (below_size (by repeat (first | (with_reducible first | exact HB.out | apply below_alloc | apply pw_below_drewN | apply below_drew1) | exact HB.out))) : w.heap.size ≤ gb480)); clear HB; have HB := n0_; have BK480 := n1_; have GW480 := n2_; have GE480 := n3_; clear n0_ n1_ n2_ n3_; clear hb hbox hg; have hcz17_0 : w16.cell? ⟨gb480, 0, none⟩ = some (.int .i64 a0_0) := (blk_cell BK480.out 0).trans rfl; have hcz17_1 : w16.cell? ⟨gb480, 1, none⟩ = some (.string a0_1) := (blk_cell BK480.out 1).trans rfl; have hcz17_2 : w16.cell? ⟨gb480, 2, none⟩ = some (.int .i64 a0_2) := (blk_cell BK480.out 2).trans rfl; have hcz17_3 : w16.cell? ⟨gb480, 3, none⟩ = some (.slice A0_3 l0_3.length c0_3) := (blk_cell BK480.out 3).trans rfl; have hfz17_0 := blk_frozen BK480.out 0; have hfz17_1 := blk_frozen BK480.out 1; have hfz17_2 := blk_frozen BK480.out 2; have hfz17_3 := blk_frozen BK480.out 3) | ((with_reducible refine gate_callee (f := 38) rfl ?_); refine goesL_ (some 10) rfl rfl Tryd.func38 (by kernel_rfl) rfl #[.agg #[.int .i64 a0_0, .string a0_1, .int .i64 a0_2, .slice A0_3 l0_3.length c0_3]] rfl (by (try simp only [List.map_toArray, List.map_cons, List.map_nil]); first | done | rfl | (simp only [List.length_drop, List.length_take]; rfl)) ?_; (with_reducible refine (vinculumref10_All.calls k a0_0 a0_1 a0_2 _ _ l0_3 t481 t484 _ ?side1 ?side2 A3.out).mono ?_); (case side1 => repeat (first | exact (Kd.C_below HR0_3.out HB.out) | (with_reducible refine Kd.C_alloc ?_ _) | (with_reducible refine Kd.C_drewN ?_ _) | (with_reducible refine Kd.C_drew ?_))); (case side2 => exact HC0_3.out); rintro e w18 ⟨v482, rfl, ho0, hb⟩; refine ⟨_, rfl, ?_⟩; have n0_ := Aside0.mk (Kd.N_lower (Kd.N_mono (ok' := fun k_ => (w.heap.size ≤ k_) ∧ k_ ≠ gb480) ho0 (fun k_ hk_ => ⟨(Nat.le_trans (below_size (by repeat (first | (with_reducible first | exact HB.out | apply below_alloc | apply pw_below_drewN | apply below_drew1 | refine below_set ?_ GE480.out) | exact HB.out))) hk_), (Kd.freshB (g := gb480) (o := .cells #[.int .i64 a0_0, .string a0_1, .int .i64 a0_2, .slice A0_3 l0_3.length c0_3] 36 (0, 0)) (by (with_reducible repeat (first | refine blk_drewN ?_ _ | refine blk_drew ?_ | refine blk_alloc ?_ _)); exact BK480.out) k_ hk_)⟩)) (below_size (by repeat (first | (with_reducible first | exact HB.out | apply below_alloc | apply pw_below_drewN | apply below_drew1 | refine below_set ?_ GE480.out) | exact HB.out)))); have n1_ := Aside0.mk (blk_below (g := gb480) (o := .cells #[.int .i64 a0_0, .string a0_1, .int .i64 a0_2, .slice A0_3 l0_3.length c0_3] 36 (0, 0)) (by (with_reducible repeat (first | refine blk_drewN ?_ _ | refine blk_drew ?_ | refine blk_alloc ?_ _)); exact BK480.out) hb); have n2_ := Aside0.mk (below_step (by repeat (first | (with_reducible first | exact HB.out | apply below_alloc | apply pw_below_drewN | apply below_drew1 | refine below_set ?_ GE480.out) | exact HB.out)) hb); clear BK480; clear HB; have HO483 := n0_; have BK480 := n1_; have HB := n2_; clear n0_ n1_ n2_; (try clear hb); (try clear hb2); (try clear hk); (try clear hi); (try clear ho0); obtain ⟨Ao19, co19, eo19⟩ := Kd.N_slice HO483.out; subst eo19; have p485 : 0 ≤ (a1 : Int) := of_decide_eq_true (by first | (with_reducible assumption) | assumption); have q485 : a1 < (t481.length : Int) := of_decide_eq_true (by first | (with_reducible assumption) | assumption); obtain ⟨ad485, A485_0, c485_0, e485, hx485_0, hl485_0, hi485_0⟩ := at_L5 (Kd.N_reads' HO483.out).2.2 a1 p485 q485; cases e485; obtain ⟨ce485, hce485, hMe485, hcc485⟩ := Kd.N_get HO483.out [] a1 p485 (by first | exact q485 | exact of_decide_eq_true (by first | (with_reducible assumption) | assumption) | (have e_ := (Kd.N_reads' HO483.out).1; omega)); obtain ⟨ua485_0, uc485_0, rfl, ul485_0, ge485_0⟩ := Kd.FK_slice_open hMe485; have hv485_0 := hcc485 0 _ rfl; rw [Nat.add_zero, show ((Kd.slice 3 (Kd.int .i64))).sz = 1 from rfl, Nat.mul_one] at hv485_0; replace hv485_0 := Option.some.inj (hv485_0.symm.trans hx485_0); injection hv485_0 with hva_ hvn_ hvc_; rw [hva_] at ge485_0; rw [hvc_] at ul485_0; have HL485_0 := Aside0.mk (show Kd.V (Kd.int .i64) 3 _ w.heap.size _ _ (rd_L5 t481 a1) from Kd.V_mk ul485_0 ge485_0); clear hva_ hvn_ hvc_ ge485_0 ul485_0; clear hcc485 hce485; have HR485_0 := Aside0.mk hi485_0; have HC485_0 := Aside0.mk hl485_0; clear hi485_0 hl485_0; replace p485 := eq_true p485; replace q485 := eq_true q485))
            go_ret2
            exact ⟨_, by first | rfl | (simp [errW_none, errW_some] <;> rfl) | (simp [*, errW_none, errW_some] <;> rfl), by (with_reducible repeat (first | apply Kd.V_alloc | apply Kd.V_drewN | apply Kd.V_drew)); exact Kd.V_mono HL485_0.out (fun _ hk => hk.1.1), by repeat (first | (with_reducible first | exact HB.out | apply below_alloc | apply pw_below_drewN | apply below_drew1 | refine below_set ?_ GE480.out) | exact HB.out)⟩
          · rw [if_neg c15] at H
            exact absurd H (by simp)
        · rw [if_neg c14] at H
          exact absurd H (by simp)
  · rw [if_neg c4] at H
    have c4b0 : (t484 == 0) = false := beq_eq_false_iff_ne.mpr c4
    have c4b1 : (t484 != 0) = true := bne_iff_ne.mpr c4
    simp only [Option.some.injEq, Prod.mk.injEq] at H
    obtain ⟨rfl, rfl⟩ := H
    go_enter Tryd.func30, Tryd.ntmps30
    go_wp2_with (first | ((with_reducible refine gate_dst (N := 2) rfl ?_); (try (refine gate_guard (by rfl) ?_; dsimp only)); refine box_event ?hg (N := 2) ?hd (cs := #[.int .i64 a0_0, .string a0_1, .int .i64 a0_2, .slice A0_3 l0_3.length c0_3]) (t := 36) ?hr ?_; (case hd => rfl); (case hg => rfl); (case hr => first | (go_simp; done) | (go_simp; rfl)); intro gb480 hg w20 hbox hb; have n0_ := Aside0.mk (below_step (by repeat (first | (with_reducible first | exact HB.out | apply below_alloc | apply pw_below_drewN | apply below_drew1) | exact HB.out)) hb); have n1_ := Aside0.mk (hbox); have n2_ := Aside0.mk ((by rw [hg]; exact (below_size (by repeat (first | (with_reducible first | exact HB.out | apply below_alloc | apply pw_below_drewN | apply below_drew1) | exact HB.out))) : w.heap.size ≤ gb480)); have n3_ := Aside0.mk ((by rw [hg]; exact (below_size (by repeat (first | (with_reducible first | exact HB.out | apply below_alloc | apply pw_below_drewN | apply below_drew1) | exact HB.out))) : w.heap.size ≤ gb480)); clear HB; have HB := n0_; have BK480 := n1_; have GW480 := n2_; have GE480 := n3_; clear n0_ n1_ n2_ n3_; clear hb hbox hg; have hcz21_0 : w20.cell? ⟨gb480, 0, none⟩ = some (.int .i64 a0_0) := (blk_cell BK480.out 0).trans rfl; have hcz21_1 : w20.cell? ⟨gb480, 1, none⟩ = some (.string a0_1) := (blk_cell BK480.out 1).trans rfl; have hcz21_2 : w20.cell? ⟨gb480, 2, none⟩ = some (.int .i64 a0_2) := (blk_cell BK480.out 2).trans rfl; have hcz21_3 : w20.cell? ⟨gb480, 3, none⟩ = some (.slice A0_3 l0_3.length c0_3) := (blk_cell BK480.out 3).trans rfl; have hfz21_0 := blk_frozen BK480.out 0; have hfz21_1 := blk_frozen BK480.out 1; have hfz21_2 := blk_frozen BK480.out 2; have hfz21_3 := blk_frozen BK480.out 3) | ((with_reducible refine gate_callee (f := 38) rfl ?_); refine goesL_ (some 10) rfl rfl Tryd.func38 (by kernel_rfl) rfl #[.agg #[.int .i64 a0_0, .string a0_1, .int .i64 a0_2, .slice A0_3 l0_3.length c0_3]] rfl (by (try simp only [List.map_toArray, List.map_cons, List.map_nil]); first | done | rfl | (simp only [List.length_drop, List.length_take]; rfl)) ?_; (with_reducible refine (vinculumref10_All.calls k a0_0 a0_1 a0_2 _ _ l0_3 t481 t484 _ ?side1 ?side2 A3.out).mono ?_); (case side1 => repeat (first | exact (Kd.C_below HR0_3.out HB.out) | (with_reducible refine Kd.C_alloc ?_ _) | (with_reducible refine Kd.C_drewN ?_ _) | (with_reducible refine Kd.C_drew ?_))); (case side2 => exact HC0_3.out); rintro e w22 ⟨v482, rfl, ho0, hb⟩; refine ⟨_, rfl, ?_⟩; have n0_ := Aside0.mk (Kd.N_lower (Kd.N_mono (ok' := fun k_ => (w.heap.size ≤ k_) ∧ k_ ≠ gb480) ho0 (fun k_ hk_ => ⟨(Nat.le_trans (below_size (by repeat (first | (with_reducible first | exact HB.out | apply below_alloc | apply pw_below_drewN | apply below_drew1 | refine below_set ?_ GE480.out) | exact HB.out))) hk_), (Kd.freshB (g := gb480) (o := .cells #[.int .i64 a0_0, .string a0_1, .int .i64 a0_2, .slice A0_3 l0_3.length c0_3] 36 (0, 0)) (by (with_reducible repeat (first | refine blk_drewN ?_ _ | refine blk_drew ?_ | refine blk_alloc ?_ _)); exact BK480.out) k_ hk_)⟩)) (below_size (by repeat (first | (with_reducible first | exact HB.out | apply below_alloc | apply pw_below_drewN | apply below_drew1 | refine below_set ?_ GE480.out) | exact HB.out)))); have n1_ := Aside0.mk (blk_below (g := gb480) (o := .cells #[.int .i64 a0_0, .string a0_1, .int .i64 a0_2, .slice A0_3 l0_3.length c0_3] 36 (0, 0)) (by (with_reducible repeat (first | refine blk_drewN ?_ _ | refine blk_drew ?_ | refine blk_alloc ?_ _)); exact BK480.out) hb); have n2_ := Aside0.mk (below_step (by repeat (first | (with_reducible first | exact HB.out | apply below_alloc | apply pw_below_drewN | apply below_drew1 | refine below_set ?_ GE480.out) | exact HB.out)) hb); clear BK480; clear HB; have HO483 := n0_; have BK480 := n1_; have HB := n2_; clear n0_ n1_ n2_; (try clear hb); (try clear hb2); (try clear hk); (try clear hi); (try clear ho0)))
    go_ret2
    exact ⟨_, by first | rfl | (simp [errW_none, errW_some] <;> rfl) | (simp [*, errW_none, errW_some] <;> rfl), Kd.V_nil _ _ _ _ _, by repeat (first | (with_reducible first | exact HB.out | apply below_alloc | apply pw_below_drewN | apply below_drew1 | refine below_set ?_ GE480.out) | exact HB.out)⟩
end Go.Proofs.YtagkhoeidjlahaaDoor.G
namespace Go.Proofs.YtagkhoeidjlahaaDoor.G
open Go.RowKit Go.Proofs.YtagkhoeidjlahaaDoorW.PrintWords Go.Proofs.YtagkhoeidjlahaaDoorW.PrintLast Go.Proofs.YtagkhoeidjlahaaDoorW.PrintMore
attribute [local go_sem] max2_int min2_int max_two min_two max_three min_three max_four min_four
set_option linter.unusedVariables false
set_option linter.unusedSimpArgs false
def vinculumref10_Step.f (k : Nat) (a0_0 : Int) (a0_1 : ByteArray) (a0_2 : Int) (l0_3 : List (S36)) (l1 : List Int) (a2 : Int) : Option (List Int × Int) := (vinculumref10_Index.f k a0_0 a0_1 a0_2 l0_3 l1).bind fun bt512 => (if bt512.2 = 0 then ((vinculumref10_At.f k a0_0 a0_1 a0_2 l0_3 (wrap64 (bt512.1 + a2))).bind fun bt514 => (if bt514.2 = 0 then (some (bt514.1, 0)) else (some (([] : List Int), 8)))) else (some (([] : List Int), bt512.2)))
theorem vinculumref10_Step.mono : ∀ a0 a1 a2 a3 a4 a5 k, LeO (vinculumref10_Step.f k a0 a1 a2 a3 a4 a5) (vinculumref10_Step.f (k + 1) a0 a1 a2 a3 a4 a5) := by
  intro a0 a1 a2 a3 a4 a5 k
  unfold vinculumref10_Step.f
  repeat' first
      | (with_reducible exact vinculumref10_At.mono _ _ _ _ _ _)
      | (with_reducible exact vinculumref10_Index.mono _ _ _ _ _ _)
      | (with_reducible exact LeO.refl _)
      | (with_reducible exact LeO.none _)
      | (with_reducible refine LeO.ite ?_ ?_)
      | (with_reducible refine LeO.bind ?_ (fun _ => ?_))
      | exact vinculumref10_At.mono _ _ _ _ _ _
      | exact vinculumref10_Index.mono _ _ _ _ _ _
      | exact LeO.none _
      | refine LeO.ite ?_ ?_
      | refine LeO.bind ?_ (fun _ => ?_)
set_option maxHeartbeats 8000000 in
set_option maxRecDepth 100000 in
theorem vinculumref10_Step.calls (k : Nat) (a0_0 : Int) (a0_1 : ByteArray) (a0_2 : Int) (A0_3 : Option Addr) (c0_3 : Nat) (l0_3 : List (S36)) (A1 : Option Addr) (c1 : Nat) (l1 : List Int) (a2 : Int) (r1 : List Int) (r2 : Int) (w : World) (hr0_3 : Kd.C k36 w A0_3 l0_3.length l0_3) (hc0_3 : l0_3.length ≤ c0_3) (hr1 : Kd.C (Kd.int .i64) w A1 l1.length l1) (hc1 : l1.length ≤ c1) (h : vinculumref10_Step.f k a0_0 a0_1 a0_2 l0_3 l1 a2 = some (r1, r2)) :
    Calls Tryd.prog 35 #[.agg #[.int .i64 a0_0, .string a0_1, .int .i64 a0_2, .slice A0_3 l0_3.length c0_3], .slice A1 l1.length c1, .int .i64 a2] w fun e w' => ∃ v0_ : Value, e = .returned (.tuple #[v0_, .int .i64 r2]) ∧ Kd.V (Kd.int .i64) 3 w' w.heap.size (fun k_ => (w.heap.size ≤ k_)) v0_ r1 ∧ Below w.heap.size w w' := by
  have hu36 := Tryd.underlying36
  have HR0_3 := Aside0.mk hr0_3
  have HC0_3 := Aside0.mk hc0_3
  clear hr0_3 hc0_3
  have HR1 := Aside0.mk hr1
  have HC1 := Aside0.mk hc1
  clear hr1 hc1
  have HB := Aside0.mk (Below.refl w.heap.size w)
  have H : ((vinculumref10_Index.f k a0_0 a0_1 a0_2 l0_3 l1).bind fun bt512 => (if bt512.2 = 0 then ((vinculumref10_At.f k a0_0 a0_1 a0_2 l0_3 (wrap64 (bt512.1 + a2))).bind fun bt514 => (if bt514.2 = 0 then (some (bt514.1, 0)) else (some (([] : List Int), 8)))) else (some (([] : List Int), bt512.2)))) = some (r1, r2) := h
  clear h
  replace H := Option.bind_eq_some_iff.mp H
  obtain ⟨⟨t512, t513⟩, A40, H⟩ := H
  replace H : (if t513 = 0 then ((vinculumref10_At.f k a0_0 a0_1 a0_2 l0_3 (wrap64 (t512 + a2))).bind fun bt514 => (if bt514.2 = 0 then (some (bt514.1, 0)) else (some (([] : List Int), 8)))) else (some (([] : List Int), t513))) = some (r1, r2) := H
  have A4 := Aside0.mk A40
  clear A40
  by_cases c5 : t513 = 0
  · rw [if_pos c5] at H
    have c5b0 : (t513 == 0) = true := beq_iff_eq.mpr c5
    have c5b1 : (t513 != 0) = false := bne_eq_false_iff_eq.mpr c5
    clear c5
    replace H := Option.bind_eq_some_iff.mp H
    obtain ⟨⟨t514, t517⟩, A60, H⟩ := H
    replace H : (if t517 = 0 then (some (t514, 0)) else (some (([] : List Int), 8))) = some (r1, r2) := H
    have A6 := Aside0.mk A60
    clear A60
    by_cases c7 : t517 = 0
    · rw [if_pos c7] at H
      have c7b0 : (t517 == 0) = true := beq_iff_eq.mpr c7
      have c7b1 : (t517 != 0) = false := bne_eq_false_iff_eq.mpr c7
      clear c7
      simp only [Option.some.injEq, Prod.mk.injEq] at H
      obtain ⟨rfl, rfl⟩ := H
      go_enter Tryd.func35, Tryd.ntmps35
      go_wp2_with (first | ((with_reducible refine gate_dst (N := 3) rfl ?_); refine box_event ?hg (N := 3) ?hd (cs := #[.int .i64 a0_0, .string a0_1, .int .i64 a0_2, .slice A0_3 l0_3.length c0_3]) (t := 36) ?hr ?_; (case hd => rfl); (case hg => rfl); (case hr => first | (go_simp; done) | (go_simp; rfl)); intro gb511 hg w8 hbox hb; have n0_ := Aside0.mk (below_step (by repeat (first | (with_reducible first | exact HB.out | apply below_alloc | apply pw_below_drewN | apply below_drew1) | exact HB.out)) hb); have n1_ := Aside0.mk (hbox); have n2_ := Aside0.mk ((by rw [hg]; exact (below_size (by repeat (first | (with_reducible first | exact HB.out | apply below_alloc | apply pw_below_drewN | apply below_drew1) | exact HB.out))) : w.heap.size ≤ gb511)); have n3_ := Aside0.mk ((by rw [hg]; exact (below_size (by repeat (first | (with_reducible first | exact HB.out | apply below_alloc | apply pw_below_drewN | apply below_drew1) | exact HB.out))) : w.heap.size ≤ gb511)); clear HB; have HB := n0_; have BK511 := n1_; have GW511 := n2_; have GE511 := n3_; clear n0_ n1_ n2_ n3_; clear hb hbox hg; have hcz9_0 : w8.cell? ⟨gb511, 0, none⟩ = some (.int .i64 a0_0) := (blk_cell BK511.out 0).trans rfl; have hcz9_1 : w8.cell? ⟨gb511, 1, none⟩ = some (.string a0_1) := (blk_cell BK511.out 1).trans rfl; have hcz9_2 : w8.cell? ⟨gb511, 2, none⟩ = some (.int .i64 a0_2) := (blk_cell BK511.out 2).trans rfl; have hcz9_3 : w8.cell? ⟨gb511, 3, none⟩ = some (.slice A0_3 l0_3.length c0_3) := (blk_cell BK511.out 3).trans rfl; have hfz9_0 := blk_frozen BK511.out 0; have hfz9_1 := blk_frozen BK511.out 1; have hfz9_2 := blk_frozen BK511.out 2; have hfz9_3 := blk_frozen BK511.out 3) | ((with_reducible refine gate_callee (f := 28) rfl ?_); refine goesL_ (some 14) rfl rfl Tryd.func28 (by kernel_rfl) rfl #[.agg #[.int .i64 a0_0, .string a0_1, .int .i64 a0_2, .slice A0_3 l0_3.length c0_3], .slice A1 l1.length c1] rfl (by (try simp only [List.map_toArray, List.map_cons, List.map_nil]); first | done | rfl | (simp only [List.length_drop, List.length_take]; rfl)) ?_; (with_reducible refine (vinculumref10_Index.calls k a0_0 a0_1 a0_2 _ _ l0_3 _ _ l1 t512 t513 _ ?side1 ?side2 ?side3 ?side4 A4.out).mono ?_); (case side1 => repeat (first | exact (Kd.C_below HR0_3.out HB.out) | (with_reducible refine Kd.C_alloc ?_ _) | (with_reducible refine Kd.C_drewN ?_ _) | (with_reducible refine Kd.C_drew ?_))); (case side2 => exact HC0_3.out); (case side3 => repeat (first | exact (Kd.C_below HR1.out HB.out) | (with_reducible refine Kd.C_alloc ?_ _) | (with_reducible refine Kd.C_drewN ?_ _) | (with_reducible refine Kd.C_drew ?_))); (case side4 => exact HC1.out); rintro e w10 ⟨rfl, hb⟩; refine ⟨_, rfl, ?_⟩; have n0_ := Aside0.mk (blk_below (g := gb511) (o := .cells #[.int .i64 a0_0, .string a0_1, .int .i64 a0_2, .slice A0_3 l0_3.length c0_3] 36 (0, 0)) (by (with_reducible repeat (first | refine blk_drewN ?_ _ | refine blk_drew ?_ | refine blk_alloc ?_ _)); exact BK511.out) hb); have n1_ := Aside0.mk (below_step (by repeat (first | (with_reducible first | exact HB.out | apply below_alloc | apply pw_below_drewN | apply below_drew1 | refine below_set ?_ GE511.out) | exact HB.out)) hb); clear BK511; clear HB; have BK511 := n0_; have HB := n1_; clear n0_ n1_; (try clear hb); (try clear hb2); (try clear hk); (try clear hi); have hcz11_0 : w10.cell? ⟨gb511, 0, none⟩ = some (.int .i64 a0_0) := (blk_cell BK511.out 0).trans rfl; have hcz11_1 : w10.cell? ⟨gb511, 1, none⟩ = some (.string a0_1) := (blk_cell BK511.out 1).trans rfl; have hcz11_2 : w10.cell? ⟨gb511, 2, none⟩ = some (.int .i64 a0_2) := (blk_cell BK511.out 2).trans rfl; have hcz11_3 : w10.cell? ⟨gb511, 3, none⟩ = some (.slice A0_3 l0_3.length c0_3) := (blk_cell BK511.out 3).trans rfl; have hfz11_0 := blk_frozen BK511.out 0; have hfz11_1 := blk_frozen BK511.out 1; have hfz11_2 := blk_frozen BK511.out 2; have hfz11_3 := blk_frozen BK511.out 3) | ((with_reducible refine gate_callee (f := 30) rfl ?_); refine goesL_ (some 25) rfl rfl Tryd.func30 (by kernel_rfl) rfl #[.agg #[.int .i64 a0_0, .string a0_1, .int .i64 a0_2, .slice A0_3 l0_3.length c0_3], .int .i64 (wrap64 (t512 + a2))] rfl (by (try simp only [List.map_toArray, List.map_cons, List.map_nil]); first | done | rfl | (simp only [List.length_drop, List.length_take]; rfl)) ?_; (with_reducible refine (vinculumref10_At.calls k a0_0 a0_1 a0_2 _ _ l0_3 (wrap64 (t512 + a2)) t514 t517 _ ?side1 ?side2 A6.out).mono ?_); (case side1 => repeat (first | exact (Kd.C_below HR0_3.out HB.out) | (with_reducible refine Kd.C_alloc ?_ _) | (with_reducible refine Kd.C_drewN ?_ _) | (with_reducible refine Kd.C_drew ?_))); (case side2 => exact HC0_3.out); rintro e w12 ⟨v515, rfl, ho0, hb⟩; refine ⟨_, rfl, ?_⟩; have n0_ := Aside0.mk (Kd.V_lower (Kd.V_mono (ok' := fun k_ => (w.heap.size ≤ k_) ∧ k_ ≠ gb511) ho0 (fun k_ hk_ => ⟨(Nat.le_trans (below_size (by repeat (first | (with_reducible first | exact HB.out | apply below_alloc | apply pw_below_drewN | apply below_drew1 | refine below_set ?_ GE511.out) | exact HB.out))) hk_), (Kd.freshB (g := gb511) (o := .cells #[.int .i64 a0_0, .string a0_1, .int .i64 a0_2, .slice A0_3 l0_3.length c0_3] 36 (0, 0)) (by (with_reducible repeat (first | refine blk_drewN ?_ _ | refine blk_drew ?_ | refine blk_alloc ?_ _)); exact BK511.out) k_ hk_)⟩)) (below_size (by repeat (first | (with_reducible first | exact HB.out | apply below_alloc | apply pw_below_drewN | apply below_drew1 | refine below_set ?_ GE511.out) | exact HB.out)))); have n1_ := Aside0.mk (blk_below (g := gb511) (o := .cells #[.int .i64 a0_0, .string a0_1, .int .i64 a0_2, .slice A0_3 l0_3.length c0_3] 36 (0, 0)) (by (with_reducible repeat (first | refine blk_drewN ?_ _ | refine blk_drew ?_ | refine blk_alloc ?_ _)); exact BK511.out) hb); have n2_ := Aside0.mk (below_step (by repeat (first | (with_reducible first | exact HB.out | apply below_alloc | apply pw_below_drewN | apply below_drew1 | refine below_set ?_ GE511.out) | exact HB.out)) hb); clear BK511; clear HB; have HO516 := n0_; have BK511 := n1_; have HB := n2_; clear n0_ n1_ n2_; (try clear hb); (try clear hb2); (try clear hk); (try clear hi); (try clear ho0)))
      go_ret2
      exact ⟨_, by first | rfl | (simp [errW_none, errW_some] <;> rfl) | (simp [*, errW_none, errW_some] <;> rfl), by (with_reducible repeat (first | apply Kd.V_alloc | apply Kd.V_drewN | apply Kd.V_drew)); exact Kd.V_mono HO516.out (fun _ hk => hk.1), by repeat (first | (with_reducible first | exact HB.out | apply below_alloc | apply pw_below_drewN | apply below_drew1 | refine below_set ?_ GE511.out) | exact HB.out)⟩
    · rw [if_neg c7] at H
      have c7b0 : (t517 == 0) = false := beq_eq_false_iff_ne.mpr c7
      have c7b1 : (t517 != 0) = true := bne_iff_ne.mpr c7
      simp only [Option.some.injEq, Prod.mk.injEq] at H
      obtain ⟨rfl, rfl⟩ := H
      go_enter Tryd.func35, Tryd.ntmps35
      go_wp2_with (first | ((with_reducible refine gate_dst (N := 3) rfl ?_); refine box_event ?hg (N := 3) ?hd (cs := #[.int .i64 a0_0, .string a0_1, .int .i64 a0_2, .slice A0_3 l0_3.length c0_3]) (t := 36) ?hr ?_; (case hd => rfl); (case hg => rfl); (case hr => first | (go_simp; done) | (go_simp; rfl)); intro gb511 hg w13 hbox hb; have n0_ := Aside0.mk (below_step (by repeat (first | (with_reducible first | exact HB.out | apply below_alloc | apply pw_below_drewN | apply below_drew1) | exact HB.out)) hb); have n1_ := Aside0.mk (hbox); have n2_ := Aside0.mk ((by rw [hg]; exact (below_size (by repeat (first | (with_reducible first | exact HB.out | apply below_alloc | apply pw_below_drewN | apply below_drew1) | exact HB.out))) : w.heap.size ≤ gb511)); have n3_ := Aside0.mk ((by rw [hg]; exact (below_size (by repeat (first | (with_reducible first | exact HB.out | apply below_alloc | apply pw_below_drewN | apply below_drew1) | exact HB.out))) : w.heap.size ≤ gb511)); clear HB; have HB := n0_; have BK511 := n1_; have GW511 := n2_; have GE511 := n3_; clear n0_ n1_ n2_ n3_; clear hb hbox hg; have hcz14_0 : w13.cell? ⟨gb511, 0, none⟩ = some (.int .i64 a0_0) := (blk_cell BK511.out 0).trans rfl; have hcz14_1 : w13.cell? ⟨gb511, 1, none⟩ = some (.string a0_1) := (blk_cell BK511.out 1).trans rfl; have hcz14_2 : w13.cell? ⟨gb511, 2, none⟩ = some (.int .i64 a0_2) := (blk_cell BK511.out 2).trans rfl; have hcz14_3 : w13.cell? ⟨gb511, 3, none⟩ = some (.slice A0_3 l0_3.length c0_3) := (blk_cell BK511.out 3).trans rfl; have hfz14_0 := blk_frozen BK511.out 0; have hfz14_1 := blk_frozen BK511.out 1; have hfz14_2 := blk_frozen BK511.out 2; have hfz14_3 := blk_frozen BK511.out 3) | ((with_reducible refine gate_callee (f := 28) rfl ?_); refine goesL_ (some 14) rfl rfl Tryd.func28 (by kernel_rfl) rfl #[.agg #[.int .i64 a0_0, .string a0_1, .int .i64 a0_2, .slice A0_3 l0_3.length c0_3], .slice A1 l1.length c1] rfl (by (try simp only [List.map_toArray, List.map_cons, List.map_nil]); first | done | rfl | (simp only [List.length_drop, List.length_take]; rfl)) ?_; (with_reducible refine (vinculumref10_Index.calls k a0_0 a0_1 a0_2 _ _ l0_3 _ _ l1 t512 t513 _ ?side1 ?side2 ?side3 ?side4 A4.out).mono ?_); (case side1 => repeat (first | exact (Kd.C_below HR0_3.out HB.out) | (with_reducible refine Kd.C_alloc ?_ _) | (with_reducible refine Kd.C_drewN ?_ _) | (with_reducible refine Kd.C_drew ?_))); (case side2 => exact HC0_3.out); (case side3 => repeat (first | exact (Kd.C_below HR1.out HB.out) | (with_reducible refine Kd.C_alloc ?_ _) | (with_reducible refine Kd.C_drewN ?_ _) | (with_reducible refine Kd.C_drew ?_))); (case side4 => exact HC1.out); rintro e w15 ⟨rfl, hb⟩; refine ⟨_, rfl, ?_⟩; have n0_ := Aside0.mk (blk_below (g := gb511) (o := .cells #[.int .i64 a0_0, .string a0_1, .int .i64 a0_2, .slice A0_3 l0_3.length c0_3] 36 (0, 0)) (by (with_reducible repeat (first | refine blk_drewN ?_ _ | refine blk_drew ?_ | refine blk_alloc ?_ _)); exact BK511.out) hb); have n1_ := Aside0.mk (below_step (by repeat (first | (with_reducible first | exact HB.out | apply below_alloc | apply pw_below_drewN | apply below_drew1 | refine below_set ?_ GE511.out) | exact HB.out)) hb); clear BK511; clear HB; have BK511 := n0_; have HB := n1_; clear n0_ n1_; (try clear hb); (try clear hb2); (try clear hk); (try clear hi); have hcz16_0 : w15.cell? ⟨gb511, 0, none⟩ = some (.int .i64 a0_0) := (blk_cell BK511.out 0).trans rfl; have hcz16_1 : w15.cell? ⟨gb511, 1, none⟩ = some (.string a0_1) := (blk_cell BK511.out 1).trans rfl; have hcz16_2 : w15.cell? ⟨gb511, 2, none⟩ = some (.int .i64 a0_2) := (blk_cell BK511.out 2).trans rfl; have hcz16_3 : w15.cell? ⟨gb511, 3, none⟩ = some (.slice A0_3 l0_3.length c0_3) := (blk_cell BK511.out 3).trans rfl; have hfz16_0 := blk_frozen BK511.out 0; have hfz16_1 := blk_frozen BK511.out 1; have hfz16_2 := blk_frozen BK511.out 2; have hfz16_3 := blk_frozen BK511.out 3) | ((with_reducible refine gate_callee (f := 30) rfl ?_); refine goesL_ (some 25) rfl rfl Tryd.func30 (by kernel_rfl) rfl #[.agg #[.int .i64 a0_0, .string a0_1, .int .i64 a0_2, .slice A0_3 l0_3.length c0_3], .int .i64 (wrap64 (t512 + a2))] rfl (by (try simp only [List.map_toArray, List.map_cons, List.map_nil]); first | done | rfl | (simp only [List.length_drop, List.length_take]; rfl)) ?_; (with_reducible refine (vinculumref10_At.calls k a0_0 a0_1 a0_2 _ _ l0_3 (wrap64 (t512 + a2)) t514 t517 _ ?side1 ?side2 A6.out).mono ?_); (case side1 => repeat (first | exact (Kd.C_below HR0_3.out HB.out) | (with_reducible refine Kd.C_alloc ?_ _) | (with_reducible refine Kd.C_drewN ?_ _) | (with_reducible refine Kd.C_drew ?_))); (case side2 => exact HC0_3.out); rintro e w17 ⟨v515, rfl, ho0, hb⟩; refine ⟨_, rfl, ?_⟩; have n0_ := Aside0.mk (Kd.V_lower (Kd.V_mono (ok' := fun k_ => (w.heap.size ≤ k_) ∧ k_ ≠ gb511) ho0 (fun k_ hk_ => ⟨(Nat.le_trans (below_size (by repeat (first | (with_reducible first | exact HB.out | apply below_alloc | apply pw_below_drewN | apply below_drew1 | refine below_set ?_ GE511.out) | exact HB.out))) hk_), (Kd.freshB (g := gb511) (o := .cells #[.int .i64 a0_0, .string a0_1, .int .i64 a0_2, .slice A0_3 l0_3.length c0_3] 36 (0, 0)) (by (with_reducible repeat (first | refine blk_drewN ?_ _ | refine blk_drew ?_ | refine blk_alloc ?_ _)); exact BK511.out) k_ hk_)⟩)) (below_size (by repeat (first | (with_reducible first | exact HB.out | apply below_alloc | apply pw_below_drewN | apply below_drew1 | refine below_set ?_ GE511.out) | exact HB.out)))); have n1_ := Aside0.mk (blk_below (g := gb511) (o := .cells #[.int .i64 a0_0, .string a0_1, .int .i64 a0_2, .slice A0_3 l0_3.length c0_3] 36 (0, 0)) (by (with_reducible repeat (first | refine blk_drewN ?_ _ | refine blk_drew ?_ | refine blk_alloc ?_ _)); exact BK511.out) hb); have n2_ := Aside0.mk (below_step (by repeat (first | (with_reducible first | exact HB.out | apply below_alloc | apply pw_below_drewN | apply below_drew1 | refine below_set ?_ GE511.out) | exact HB.out)) hb); clear BK511; clear HB; have HO516 := n0_; have BK511 := n1_; have HB := n2_; clear n0_ n1_ n2_; (try clear hb); (try clear hb2); (try clear hk); (try clear hi); (try clear ho0)))
      go_ret2
      exact ⟨_, by first | rfl | (simp [errW_none, errW_some] <;> rfl) | (simp [*, errW_none, errW_some] <;> rfl), Kd.V_nil _ _ _ _ _, by repeat (first | (with_reducible first | exact HB.out | apply below_alloc | apply pw_below_drewN | apply below_drew1 | refine below_set ?_ GE511.out) | exact HB.out)⟩
  · rw [if_neg c5] at H
    have c5b0 : (t513 == 0) = false := beq_eq_false_iff_ne.mpr c5
    have c5b1 : (t513 != 0) = true := bne_iff_ne.mpr c5
    simp only [Option.some.injEq, Prod.mk.injEq] at H
    obtain ⟨rfl, rfl⟩ := H
    go_enter Tryd.func35, Tryd.ntmps35
    go_wp2_with (first | ((with_reducible refine gate_dst (N := 3) rfl ?_); refine box_event ?hg (N := 3) ?hd (cs := #[.int .i64 a0_0, .string a0_1, .int .i64 a0_2, .slice A0_3 l0_3.length c0_3]) (t := 36) ?hr ?_; (case hd => rfl); (case hg => rfl); (case hr => first | (go_simp; done) | (go_simp; rfl)); intro gb511 hg w18 hbox hb; have n0_ := Aside0.mk (below_step (by repeat (first | (with_reducible first | exact HB.out | apply below_alloc | apply pw_below_drewN | apply below_drew1) | exact HB.out)) hb); have n1_ := Aside0.mk (hbox); have n2_ := Aside0.mk ((by rw [hg]; exact (below_size (by repeat (first | (with_reducible first | exact HB.out | apply below_alloc | apply pw_below_drewN | apply below_drew1) | exact HB.out))) : w.heap.size ≤ gb511)); have n3_ := Aside0.mk ((by rw [hg]; exact (below_size (by repeat (first | (with_reducible first | exact HB.out | apply below_alloc | apply pw_below_drewN | apply below_drew1) | exact HB.out))) : w.heap.size ≤ gb511)); clear HB; have HB := n0_; have BK511 := n1_; have GW511 := n2_; have GE511 := n3_; clear n0_ n1_ n2_ n3_; clear hb hbox hg; have hcz19_0 : w18.cell? ⟨gb511, 0, none⟩ = some (.int .i64 a0_0) := (blk_cell BK511.out 0).trans rfl; have hcz19_1 : w18.cell? ⟨gb511, 1, none⟩ = some (.string a0_1) := (blk_cell BK511.out 1).trans rfl; have hcz19_2 : w18.cell? ⟨gb511, 2, none⟩ = some (.int .i64 a0_2) := (blk_cell BK511.out 2).trans rfl; have hcz19_3 : w18.cell? ⟨gb511, 3, none⟩ = some (.slice A0_3 l0_3.length c0_3) := (blk_cell BK511.out 3).trans rfl; have hfz19_0 := blk_frozen BK511.out 0; have hfz19_1 := blk_frozen BK511.out 1; have hfz19_2 := blk_frozen BK511.out 2; have hfz19_3 := blk_frozen BK511.out 3) | ((with_reducible refine gate_callee (f := 28) rfl ?_); refine goesL_ (some 14) rfl rfl Tryd.func28 (by kernel_rfl) rfl #[.agg #[.int .i64 a0_0, .string a0_1, .int .i64 a0_2, .slice A0_3 l0_3.length c0_3], .slice A1 l1.length c1] rfl (by (try simp only [List.map_toArray, List.map_cons, List.map_nil]); first | done | rfl | (simp only [List.length_drop, List.length_take]; rfl)) ?_; (with_reducible refine (vinculumref10_Index.calls k a0_0 a0_1 a0_2 _ _ l0_3 _ _ l1 t512 t513 _ ?side1 ?side2 ?side3 ?side4 A4.out).mono ?_); (case side1 => repeat (first | exact (Kd.C_below HR0_3.out HB.out) | (with_reducible refine Kd.C_alloc ?_ _) | (with_reducible refine Kd.C_drewN ?_ _) | (with_reducible refine Kd.C_drew ?_))); (case side2 => exact HC0_3.out); (case side3 => repeat (first | exact (Kd.C_below HR1.out HB.out) | (with_reducible refine Kd.C_alloc ?_ _) | (with_reducible refine Kd.C_drewN ?_ _) | (with_reducible refine Kd.C_drew ?_))); (case side4 => exact HC1.out); rintro e w20 ⟨rfl, hb⟩; refine ⟨_, rfl, ?_⟩; have n0_ := Aside0.mk (blk_below (g := gb511) (o := .cells #[.int .i64 a0_0, .string a0_1, .int .i64 a0_2, .slice A0_3 l0_3.length c0_3] 36 (0, 0)) (by (with_reducible repeat (first | refine blk_drewN ?_ _ | refine blk_drew ?_ | refine blk_alloc ?_ _)); exact BK511.out) hb); have n1_ := Aside0.mk (below_step (by repeat (first | (with_reducible first | exact HB.out | apply below_alloc | apply pw_below_drewN | apply below_drew1 | refine below_set ?_ GE511.out) | exact HB.out)) hb); clear BK511; clear HB; have BK511 := n0_; have HB := n1_; clear n0_ n1_; (try clear hb); (try clear hb2); (try clear hk); (try clear hi)))
    go_ret2
    exact ⟨_, by first | rfl | (simp [errW_none, errW_some] <;> rfl) | (simp [*, errW_none, errW_some] <;> rfl), Kd.V_nil _ _ _ _ _, by repeat (first | (with_reducible first | exact HB.out | apply below_alloc | apply pw_below_drewN | apply below_drew1 | refine below_set ?_ GE511.out) | exact HB.out)⟩
end Go.Proofs.YtagkhoeidjlahaaDoor.G
namespace Go.Proofs.YtagkhoeidjlahaaDoor.G
open Go.RowKit Go.Proofs.YtagkhoeidjlahaaDoorW.PrintWords Go.Proofs.YtagkhoeidjlahaaDoorW.PrintLast Go.Proofs.YtagkhoeidjlahaaDoorW.PrintMore
attribute [local go_sem] max2_int min2_int max_two min_two max_three min_three max_four min_four
set_option linter.unusedVariables false
set_option linter.unusedSimpArgs false
def position_Prev.f (k : Nat) (a0_0 : Int) (a0_1 : ByteArray) (a0_2 : Int) (l0_3 : List (S36)) (l1 : List Int) : Option (List Int × Int) := (position_step.f k a0_0 a0_1 a0_2 l0_3 l1 (-1)).bind fun bt519 => (some (bt519.1, bt519.2))
theorem position_Prev.mono : ∀ a0 a1 a2 a3 a4 k, LeO (position_Prev.f k a0 a1 a2 a3 a4) (position_Prev.f (k + 1) a0 a1 a2 a3 a4) := by
  intro a0 a1 a2 a3 a4 k
  unfold position_Prev.f
  repeat' first
      | (with_reducible exact position_step.mono _ _ _ _ _ _ _)
      | (with_reducible exact LeO.refl _)
      | (with_reducible exact LeO.none _)
      | (with_reducible refine LeO.ite ?_ ?_)
      | (with_reducible refine LeO.bind ?_ (fun _ => ?_))
      | exact position_step.mono _ _ _ _ _ _ _
      | exact LeO.none _
      | refine LeO.ite ?_ ?_
      | refine LeO.bind ?_ (fun _ => ?_)
set_option maxHeartbeats 8000000 in
set_option maxRecDepth 100000 in
theorem position_Prev.calls (k : Nat) (a0_0 : Int) (a0_1 : ByteArray) (a0_2 : Int) (A0_3 : Option Addr) (c0_3 : Nat) (l0_3 : List (S36)) (A1 : Option Addr) (c1 : Nat) (l1 : List Int) (r1 : List Int) (r2 : Int) (w : World) (hr0_3 : Kd.C k36 w A0_3 l0_3.length l0_3) (hc0_3 : l0_3.length ≤ c0_3) (hr1 : Kd.C (Kd.int .i64) w A1 l1.length l1) (hc1 : l1.length ≤ c1) (h : position_Prev.f k a0_0 a0_1 a0_2 l0_3 l1 = some (r1, r2)) :
    Calls Tryd.prog 36 #[.agg #[.int .i64 a0_0, .string a0_1, .int .i64 a0_2, .slice A0_3 l0_3.length c0_3], .slice A1 l1.length c1] w fun e w' => ∃ v0_ : Value, e = .returned (.tuple #[v0_, .int .i64 r2]) ∧ Kd.V (Kd.int .i64) 3 w' w.heap.size (fun k_ => (w.heap.size ≤ k_)) v0_ r1 ∧ Below w.heap.size w w' := by
  have hu36 := Tryd.underlying36
  have HR0_3 := Aside0.mk hr0_3
  have HC0_3 := Aside0.mk hc0_3
  clear hr0_3 hc0_3
  have HR1 := Aside0.mk hr1
  have HC1 := Aside0.mk hc1
  clear hr1 hc1
  have HB := Aside0.mk (Below.refl w.heap.size w)
  have H : ((position_step.f k a0_0 a0_1 a0_2 l0_3 l1 (-1)).bind fun bt519 => (some (bt519.1, bt519.2))) = some (r1, r2) := h
  clear h
  replace H := Option.bind_eq_some_iff.mp H
  obtain ⟨⟨t519, t522⟩, A30, H⟩ := H
  replace H : (some (t519, t522)) = some (r1, r2) := H
  have A3 := Aside0.mk A30
  clear A30
  simp only [Option.some.injEq, Prod.mk.injEq] at H
  obtain ⟨rfl, rfl⟩ := H
  go_enter Tryd.func36, Tryd.ntmps36
  go_wp2_with (first | ((with_reducible refine gate_dst (N := 2) rfl ?_); refine box_event ?hg (N := 2) ?hd (cs := #[.int .i64 a0_0, .string a0_1, .int .i64 a0_2, .slice A0_3 l0_3.length c0_3]) (t := 36) ?hr ?_; (case hd => rfl); (case hg => rfl); (case hr => first | (go_simp; done) | (go_simp; rfl)); intro gb518 hg w4 hbox hb; have n0_ := Aside0.mk (below_step (by repeat (first | (with_reducible first | exact HB.out | apply below_alloc | apply pw_below_drewN | apply below_drew1) | exact HB.out)) hb); have n1_ := Aside0.mk (hbox); have n2_ := Aside0.mk ((by rw [hg]; exact (below_size (by repeat (first | (with_reducible first | exact HB.out | apply below_alloc | apply pw_below_drewN | apply below_drew1) | exact HB.out))) : w.heap.size ≤ gb518)); have n3_ := Aside0.mk ((by rw [hg]; exact (below_size (by repeat (first | (with_reducible first | exact HB.out | apply below_alloc | apply pw_below_drewN | apply below_drew1) | exact HB.out))) : w.heap.size ≤ gb518)); clear HB; have HB := n0_; have BK518 := n1_; have GW518 := n2_; have GE518 := n3_; clear n0_ n1_ n2_ n3_; clear hb hbox hg; have hcz5_0 : w4.cell? ⟨gb518, 0, none⟩ = some (.int .i64 a0_0) := (blk_cell BK518.out 0).trans rfl; have hcz5_1 : w4.cell? ⟨gb518, 1, none⟩ = some (.string a0_1) := (blk_cell BK518.out 1).trans rfl; have hcz5_2 : w4.cell? ⟨gb518, 2, none⟩ = some (.int .i64 a0_2) := (blk_cell BK518.out 2).trans rfl; have hcz5_3 : w4.cell? ⟨gb518, 3, none⟩ = some (.slice A0_3 l0_3.length c0_3) := (blk_cell BK518.out 3).trans rfl; have hfz5_0 := blk_frozen BK518.out 0; have hfz5_1 := blk_frozen BK518.out 1; have hfz5_2 := blk_frozen BK518.out 2; have hfz5_3 := blk_frozen BK518.out 3) | ((with_reducible refine gate_callee (f := 71) rfl ?_); refine goesL_ (some 8) rfl rfl Tryd.func71 (by kernel_rfl) rfl #[.agg #[.int .i64 a0_0, .string a0_1, .int .i64 a0_2, .slice A0_3 l0_3.length c0_3], .slice A1 l1.length c1, .int .i64 (-1)] rfl (by (try simp only [List.map_toArray, List.map_cons, List.map_nil]); first | done | rfl | (simp only [List.length_drop, List.length_take]; rfl)) ?_; (with_reducible refine (position_step.calls k a0_0 a0_1 a0_2 _ _ l0_3 _ _ l1 (-1) t519 t522 _ ?side1 ?side2 ?side3 ?side4 A3.out).mono ?_); (case side1 => repeat (first | exact (Kd.C_below HR0_3.out HB.out) | (with_reducible refine Kd.C_alloc ?_ _) | (with_reducible refine Kd.C_drewN ?_ _) | (with_reducible refine Kd.C_drew ?_))); (case side2 => exact HC0_3.out); (case side3 => repeat (first | exact (Kd.C_below HR1.out HB.out) | (with_reducible refine Kd.C_alloc ?_ _) | (with_reducible refine Kd.C_drewN ?_ _) | (with_reducible refine Kd.C_drew ?_))); (case side4 => exact HC1.out); rintro e w6 ⟨v520, rfl, ho0, hb⟩; refine ⟨_, rfl, ?_⟩; have n0_ := Aside0.mk (Kd.V_lower (Kd.V_mono (ok' := fun k_ => (w.heap.size ≤ k_) ∧ k_ ≠ gb518) ho0 (fun k_ hk_ => ⟨(Nat.le_trans (below_size (by repeat (first | (with_reducible first | exact HB.out | apply below_alloc | apply pw_below_drewN | apply below_drew1 | refine below_set ?_ GE518.out) | exact HB.out))) hk_), (Kd.freshB (g := gb518) (o := .cells #[.int .i64 a0_0, .string a0_1, .int .i64 a0_2, .slice A0_3 l0_3.length c0_3] 36 (0, 0)) (by (with_reducible repeat (first | refine blk_drewN ?_ _ | refine blk_drew ?_ | refine blk_alloc ?_ _)); exact BK518.out) k_ hk_)⟩)) (below_size (by repeat (first | (with_reducible first | exact HB.out | apply below_alloc | apply pw_below_drewN | apply below_drew1 | refine below_set ?_ GE518.out) | exact HB.out)))); have n1_ := Aside0.mk (blk_below (g := gb518) (o := .cells #[.int .i64 a0_0, .string a0_1, .int .i64 a0_2, .slice A0_3 l0_3.length c0_3] 36 (0, 0)) (by (with_reducible repeat (first | refine blk_drewN ?_ _ | refine blk_drew ?_ | refine blk_alloc ?_ _)); exact BK518.out) hb); have n2_ := Aside0.mk (below_step (by repeat (first | (with_reducible first | exact HB.out | apply below_alloc | apply pw_below_drewN | apply below_drew1 | refine below_set ?_ GE518.out) | exact HB.out)) hb); clear BK518; clear HB; have HO521 := n0_; have BK518 := n1_; have HB := n2_; clear n0_ n1_ n2_; (try clear hb); (try clear hb2); (try clear hk); (try clear hi); (try clear ho0)))
  go_ret2
  exact ⟨_, by first | rfl | (simp [errW_none, errW_some] <;> rfl) | (simp [*, errW_none, errW_some] <;> rfl), by (with_reducible repeat (first | apply Kd.V_alloc | apply Kd.V_drewN | apply Kd.V_drew)); exact Kd.V_mono HO521.out (fun _ hk => hk.1), by repeat (first | (with_reducible first | exact HB.out | apply below_alloc | apply pw_below_drewN | apply below_drew1 | refine below_set ?_ GE518.out) | exact HB.out)⟩
end Go.Proofs.YtagkhoeidjlahaaDoor.G
namespace Go.Proofs.YtagkhoeidjlahaaDoor.G
open Go.RowKit Go.Proofs.YtagkhoeidjlahaaDoorW.PrintWords Go.Proofs.YtagkhoeidjlahaaDoorW.PrintLast Go.Proofs.YtagkhoeidjlahaaDoorW.PrintMore
attribute [local go_sem] max2_int min2_int max_two min_two max_three min_three max_four min_four
set_option linter.unusedVariables false
set_option linter.unusedSimpArgs false
def position_First.f (k : Nat) (a0_0 : Int) (a0_1 : ByteArray) (a0_2 : Int) (l0_3 : List (S36)) : Option (List Int × Int) := (position_At.f k a0_0 a0_1 a0_2 l0_3 0).bind fun bt546 => (some (bt546.1, bt546.2))
theorem position_First.mono : ∀ a0 a1 a2 a3 k, LeO (position_First.f k a0 a1 a2 a3) (position_First.f (k + 1) a0 a1 a2 a3) := by
  intro a0 a1 a2 a3 k
  unfold position_First.f
  repeat' first
      | (with_reducible exact position_At.mono _ _ _ _ _ _)
      | (with_reducible exact LeO.refl _)
      | (with_reducible exact LeO.none _)
      | (with_reducible refine LeO.ite ?_ ?_)
      | (with_reducible refine LeO.bind ?_ (fun _ => ?_))
      | exact position_At.mono _ _ _ _ _ _
      | exact LeO.none _
      | refine LeO.ite ?_ ?_
      | refine LeO.bind ?_ (fun _ => ?_)
set_option maxHeartbeats 8000000 in
set_option maxRecDepth 100000 in
theorem position_First.calls (k : Nat) (a0_0 : Int) (a0_1 : ByteArray) (a0_2 : Int) (A0_3 : Option Addr) (c0_3 : Nat) (l0_3 : List (S36)) (r1 : List Int) (r2 : Int) (w : World) (hr0_3 : Kd.C k36 w A0_3 l0_3.length l0_3) (hc0_3 : l0_3.length ≤ c0_3) (h : position_First.f k a0_0 a0_1 a0_2 l0_3 = some (r1, r2)) :
    Calls Tryd.prog 39 #[.agg #[.int .i64 a0_0, .string a0_1, .int .i64 a0_2, .slice A0_3 l0_3.length c0_3]] w fun e w' => ∃ v0_ : Value, e = .returned (.tuple #[v0_, .int .i64 r2]) ∧ Kd.V (Kd.int .i64) 3 w' w.heap.size (fun k_ => (w.heap.size ≤ k_)) v0_ r1 ∧ Below w.heap.size w w' := by
  have hu36 := Tryd.underlying36
  have HR0_3 := Aside0.mk hr0_3
  have HC0_3 := Aside0.mk hc0_3
  clear hr0_3 hc0_3
  have HB := Aside0.mk (Below.refl w.heap.size w)
  have H : ((position_At.f k a0_0 a0_1 a0_2 l0_3 0).bind fun bt546 => (some (bt546.1, bt546.2))) = some (r1, r2) := h
  clear h
  replace H := Option.bind_eq_some_iff.mp H
  obtain ⟨⟨t546, t549⟩, A20, H⟩ := H
  replace H : (some (t546, t549)) = some (r1, r2) := H
  have A2 := Aside0.mk A20
  clear A20
  simp only [Option.some.injEq, Prod.mk.injEq] at H
  obtain ⟨rfl, rfl⟩ := H
  go_enter Tryd.func39, Tryd.ntmps39
  go_wp2_with (first | ((with_reducible refine gate_dst (N := 1) rfl ?_); refine box_event ?hg (N := 1) ?hd (cs := #[.int .i64 a0_0, .string a0_1, .int .i64 a0_2, .slice A0_3 l0_3.length c0_3]) (t := 36) ?hr ?_; (case hd => rfl); (case hg => rfl); (case hr => first | (go_simp; done) | (go_simp; rfl)); intro gb545 hg w3 hbox hb; have n0_ := Aside0.mk (below_step (by repeat (first | (with_reducible first | exact HB.out | apply below_alloc | apply pw_below_drewN | apply below_drew1) | exact HB.out)) hb); have n1_ := Aside0.mk (hbox); have n2_ := Aside0.mk ((by rw [hg]; exact (below_size (by repeat (first | (with_reducible first | exact HB.out | apply below_alloc | apply pw_below_drewN | apply below_drew1) | exact HB.out))) : w.heap.size ≤ gb545)); have n3_ := Aside0.mk ((by rw [hg]; exact (below_size (by repeat (first | (with_reducible first | exact HB.out | apply below_alloc | apply pw_below_drewN | apply below_drew1) | exact HB.out))) : w.heap.size ≤ gb545)); clear HB; have HB := n0_; have BK545 := n1_; have GW545 := n2_; have GE545 := n3_; clear n0_ n1_ n2_ n3_; clear hb hbox hg; have hcz4_0 : w3.cell? ⟨gb545, 0, none⟩ = some (.int .i64 a0_0) := (blk_cell BK545.out 0).trans rfl; have hcz4_1 : w3.cell? ⟨gb545, 1, none⟩ = some (.string a0_1) := (blk_cell BK545.out 1).trans rfl; have hcz4_2 : w3.cell? ⟨gb545, 2, none⟩ = some (.int .i64 a0_2) := (blk_cell BK545.out 2).trans rfl; have hcz4_3 : w3.cell? ⟨gb545, 3, none⟩ = some (.slice A0_3 l0_3.length c0_3) := (blk_cell BK545.out 3).trans rfl; have hfz4_0 := blk_frozen BK545.out 0; have hfz4_1 := blk_frozen BK545.out 1; have hfz4_2 := blk_frozen BK545.out 2; have hfz4_3 := blk_frozen BK545.out 3) | ((with_reducible refine gate_callee (f := 29) rfl ?_); refine goesL_ (some 5) rfl rfl Tryd.func29 (by kernel_rfl) rfl #[.agg #[.int .i64 a0_0, .string a0_1, .int .i64 a0_2, .slice A0_3 l0_3.length c0_3], .int .i64 0] rfl (by (try simp only [List.map_toArray, List.map_cons, List.map_nil]); first | done | rfl | (simp only [List.length_drop, List.length_take]; rfl)) ?_; (with_reducible refine (position_At.calls k a0_0 a0_1 a0_2 _ _ l0_3 0 t546 t549 _ ?side1 ?side2 A2.out).mono ?_); (case side1 => repeat (first | exact (Kd.C_below HR0_3.out HB.out) | (with_reducible refine Kd.C_alloc ?_ _) | (with_reducible refine Kd.C_drewN ?_ _) | (with_reducible refine Kd.C_drew ?_))); (case side2 => exact HC0_3.out); rintro e w5 ⟨v547, rfl, ho0, hb⟩; refine ⟨_, rfl, ?_⟩; have n0_ := Aside0.mk (Kd.V_lower (Kd.V_mono (ok' := fun k_ => (w.heap.size ≤ k_) ∧ k_ ≠ gb545) ho0 (fun k_ hk_ => ⟨(Nat.le_trans (below_size (by repeat (first | (with_reducible first | exact HB.out | apply below_alloc | apply pw_below_drewN | apply below_drew1 | refine below_set ?_ GE545.out) | exact HB.out))) hk_), (Kd.freshB (g := gb545) (o := .cells #[.int .i64 a0_0, .string a0_1, .int .i64 a0_2, .slice A0_3 l0_3.length c0_3] 36 (0, 0)) (by (with_reducible repeat (first | refine blk_drewN ?_ _ | refine blk_drew ?_ | refine blk_alloc ?_ _)); exact BK545.out) k_ hk_)⟩)) (below_size (by repeat (first | (with_reducible first | exact HB.out | apply below_alloc | apply pw_below_drewN | apply below_drew1 | refine below_set ?_ GE545.out) | exact HB.out)))); have n1_ := Aside0.mk (blk_below (g := gb545) (o := .cells #[.int .i64 a0_0, .string a0_1, .int .i64 a0_2, .slice A0_3 l0_3.length c0_3] 36 (0, 0)) (by (with_reducible repeat (first | refine blk_drewN ?_ _ | refine blk_drew ?_ | refine blk_alloc ?_ _)); exact BK545.out) hb); have n2_ := Aside0.mk (below_step (by repeat (first | (with_reducible first | exact HB.out | apply below_alloc | apply pw_below_drewN | apply below_drew1 | refine below_set ?_ GE545.out) | exact HB.out)) hb); clear BK545; clear HB; have HO548 := n0_; have BK545 := n1_; have HB := n2_; clear n0_ n1_ n2_; (try clear hb); (try clear hb2); (try clear hk); (try clear hi); (try clear ho0)))
  go_ret2
  exact ⟨_, by first | rfl | (simp [errW_none, errW_some] <;> rfl) | (simp [*, errW_none, errW_some] <;> rfl), by (with_reducible repeat (first | apply Kd.V_alloc | apply Kd.V_drewN | apply Kd.V_drew)); exact Kd.V_mono HO548.out (fun _ hk => hk.1), by repeat (first | (with_reducible first | exact HB.out | apply below_alloc | apply pw_below_drewN | apply below_drew1 | refine below_set ?_ GE545.out) | exact HB.out)⟩
end Go.Proofs.YtagkhoeidjlahaaDoor.G
namespace Go.Proofs.YtagkhoeidjlahaaDoor.G
open Go.RowKit Go.Proofs.YtagkhoeidjlahaaDoorW.PrintWords Go.Proofs.YtagkhoeidjlahaaDoorW.PrintLast Go.Proofs.YtagkhoeidjlahaaDoorW.PrintMore
attribute [local go_sem] max2_int min2_int max_two min_two max_three min_three max_four min_four
set_option linter.unusedVariables false
set_option linter.unusedSimpArgs false
def position_Count.f (k : Nat) (a0_0 : Int) (a0_1 : ByteArray) (a0_2 : Int) (l0_3 : List (S36)) : Option (Int) := (position_All.f k a0_0 a0_1 a0_2 l0_3).bind fun bt551 => (some (bt551.1.length : Int))
theorem position_Count.mono : ∀ a0 a1 a2 a3 k, LeO (position_Count.f k a0 a1 a2 a3) (position_Count.f (k + 1) a0 a1 a2 a3) := by
  intro a0 a1 a2 a3 k
  unfold position_Count.f
  repeat' first
      | (with_reducible exact position_All.mono _ _ _ _ _)
      | (with_reducible exact LeO.refl _)
      | (with_reducible exact LeO.none _)
      | (with_reducible refine LeO.ite ?_ ?_)
      | (with_reducible refine LeO.bind ?_ (fun _ => ?_))
      | exact position_All.mono _ _ _ _ _
      | exact LeO.none _
      | refine LeO.ite ?_ ?_
      | refine LeO.bind ?_ (fun _ => ?_)
set_option maxHeartbeats 8000000 in
set_option maxRecDepth 100000 in
theorem position_Count.calls (k : Nat) (a0_0 : Int) (a0_1 : ByteArray) (a0_2 : Int) (A0_3 : Option Addr) (c0_3 : Nat) (l0_3 : List (S36)) (r : Int) (w : World) (hr0_3 : Kd.C k36 w A0_3 l0_3.length l0_3) (hc0_3 : l0_3.length ≤ c0_3) (h : position_Count.f k a0_0 a0_1 a0_2 l0_3 = some r) :
    Calls Tryd.prog 43 #[.agg #[.int .i64 a0_0, .string a0_1, .int .i64 a0_2, .slice A0_3 l0_3.length c0_3]] w fun e w' => e = .returned (.int .i64 r) ∧ Below w.heap.size w w' := by
  have hu36 := Tryd.underlying36
  have HR0_3 := Aside0.mk hr0_3
  have HC0_3 := Aside0.mk hc0_3
  clear hr0_3 hc0_3
  have HB := Aside0.mk (Below.refl w.heap.size w)
  have H : ((position_All.f k a0_0 a0_1 a0_2 l0_3).bind fun bt551 => (some (bt551.1.length : Int))) = some r := h
  clear h
  replace H := Option.bind_eq_some_iff.mp H
  obtain ⟨⟨t551, t554⟩, A20, H⟩ := H
  replace H : (some (t551.length : Int)) = some r := H
  have A2 := Aside0.mk A20
  clear A20
  obtain rfl := Option.some.inj H
  go_enter Tryd.func43, Tryd.ntmps43
  go_wp2_with (first | ((with_reducible refine gate_dst (N := 1) rfl ?_); refine box_event ?hg (N := 1) ?hd (cs := #[.int .i64 a0_0, .string a0_1, .int .i64 a0_2, .slice A0_3 l0_3.length c0_3]) (t := 36) ?hr ?_; (case hd => rfl); (case hg => rfl); (case hr => first | (go_simp; done) | (go_simp; rfl)); intro gb550 hg w3 hbox hb; have n0_ := Aside0.mk (below_step (by repeat (first | (with_reducible first | exact HB.out | apply below_alloc | apply pw_below_drewN | apply below_drew1) | exact HB.out)) hb); have n1_ := Aside0.mk (hbox); have n2_ := Aside0.mk ((by rw [hg]; exact (below_size (by repeat (first | (with_reducible first | exact HB.out | apply below_alloc | apply pw_below_drewN | apply below_drew1) | exact HB.out))) : w.heap.size ≤ gb550)); have n3_ := Aside0.mk ((by rw [hg]; exact (below_size (by repeat (first | (with_reducible first | exact HB.out | apply below_alloc | apply pw_below_drewN | apply below_drew1) | exact HB.out))) : w.heap.size ≤ gb550)); clear HB; have HB := n0_; have BK550 := n1_; have GW550 := n2_; have GE550 := n3_; clear n0_ n1_ n2_ n3_; clear hb hbox hg; have hcz4_0 : w3.cell? ⟨gb550, 0, none⟩ = some (.int .i64 a0_0) := (blk_cell BK550.out 0).trans rfl; have hcz4_1 : w3.cell? ⟨gb550, 1, none⟩ = some (.string a0_1) := (blk_cell BK550.out 1).trans rfl; have hcz4_2 : w3.cell? ⟨gb550, 2, none⟩ = some (.int .i64 a0_2) := (blk_cell BK550.out 2).trans rfl; have hcz4_3 : w3.cell? ⟨gb550, 3, none⟩ = some (.slice A0_3 l0_3.length c0_3) := (blk_cell BK550.out 3).trans rfl; have hfz4_0 := blk_frozen BK550.out 0; have hfz4_1 := blk_frozen BK550.out 1; have hfz4_2 := blk_frozen BK550.out 2; have hfz4_3 := blk_frozen BK550.out 3) | ((with_reducible refine gate_callee (f := 37) rfl ?_); refine goesL_ (some 7) rfl rfl Tryd.func37 (by kernel_rfl) rfl #[.agg #[.int .i64 a0_0, .string a0_1, .int .i64 a0_2, .slice A0_3 l0_3.length c0_3]] rfl (by (try simp only [List.map_toArray, List.map_cons, List.map_nil]); first | done | rfl | (simp only [List.length_drop, List.length_take]; rfl)) ?_; (with_reducible refine (position_All.calls k a0_0 a0_1 a0_2 _ _ l0_3 t551 t554 _ ?side1 ?side2 A2.out).mono ?_); (case side1 => repeat (first | exact (Kd.C_below HR0_3.out HB.out) | (with_reducible refine Kd.C_alloc ?_ _) | (with_reducible refine Kd.C_drewN ?_ _) | (with_reducible refine Kd.C_drew ?_))); (case side2 => exact HC0_3.out); rintro e w5 ⟨v552, rfl, ho0, hb⟩; refine ⟨_, rfl, ?_⟩; have n0_ := Aside0.mk (Kd.N_lower (Kd.N_mono (ok' := fun k_ => k_ ≠ gb550) ho0 (fun k_ hk_ => (Kd.freshB (g := gb550) (o := .cells #[.int .i64 a0_0, .string a0_1, .int .i64 a0_2, .slice A0_3 l0_3.length c0_3] 36 (0, 0)) (by (with_reducible repeat (first | refine blk_drewN ?_ _ | refine blk_drew ?_ | refine blk_alloc ?_ _)); exact BK550.out) k_ hk_))) (below_size (by repeat (first | (with_reducible first | exact HB.out | apply below_alloc | apply pw_below_drewN | apply below_drew1 | refine below_set ?_ GE550.out) | exact HB.out)))); have n1_ := Aside0.mk (blk_below (g := gb550) (o := .cells #[.int .i64 a0_0, .string a0_1, .int .i64 a0_2, .slice A0_3 l0_3.length c0_3] 36 (0, 0)) (by (with_reducible repeat (first | refine blk_drewN ?_ _ | refine blk_drew ?_ | refine blk_alloc ?_ _)); exact BK550.out) hb); have n2_ := Aside0.mk (below_step (by repeat (first | (with_reducible first | exact HB.out | apply below_alloc | apply pw_below_drewN | apply below_drew1 | refine below_set ?_ GE550.out) | exact HB.out)) hb); clear BK550; clear HB; have HO553 := n0_; have BK550 := n1_; have HB := n2_; clear n0_ n1_ n2_; (try clear hb); (try clear hb2); (try clear hk); (try clear hi); (try clear ho0); obtain ⟨Ao6, co6, eo6⟩ := Kd.N_slice HO553.out; subst eo6))
  go_ret
  exact ⟨by first | rfl | (simp [errW_none, errW_some] <;> rfl) | (simp [*, errW_none, errW_some] <;> rfl), by repeat (first | (with_reducible first | exact HB.out | apply below_alloc | apply pw_below_drewN | apply below_drew1 | refine below_set ?_ GE550.out) | exact HB.out)⟩
end Go.Proofs.YtagkhoeidjlahaaDoor.G
namespace Go.Proofs.YtagkhoeidjlahaaDoor.G
open Go.RowKit Go.Proofs.YtagkhoeidjlahaaDoorW.PrintWords Go.Proofs.YtagkhoeidjlahaaDoorW.PrintLast Go.Proofs.YtagkhoeidjlahaaDoorW.PrintMore
attribute [local go_sem] max2_int min2_int max_two min_two max_three min_three max_four min_four
set_option linter.unusedVariables false
set_option linter.unusedSimpArgs false
def position_Last.f (k : Nat) (a0_0 : Int) (a0_1 : ByteArray) (a0_2 : Int) (l0_3 : List (S36)) : Option (List Int × Int) := (position_Count.f k a0_0 a0_1 a0_2 l0_3).bind fun t556 => ((position_At.f k a0_0 a0_1 a0_2 l0_3 (wrap64 (t556 - 1))).bind fun bt557 => (some (bt557.1, bt557.2)))
theorem position_Last.mono : ∀ a0 a1 a2 a3 k, LeO (position_Last.f k a0 a1 a2 a3) (position_Last.f (k + 1) a0 a1 a2 a3) := by
  intro a0 a1 a2 a3 k
  unfold position_Last.f
  repeat' first
      | (with_reducible exact position_At.mono _ _ _ _ _ _)
      | (with_reducible exact position_Count.mono _ _ _ _ _)
      | (with_reducible exact LeO.refl _)
      | (with_reducible exact LeO.none _)
      | (with_reducible refine LeO.ite ?_ ?_)
      | (with_reducible refine LeO.bind ?_ (fun _ => ?_))
      | exact position_At.mono _ _ _ _ _ _
      | exact position_Count.mono _ _ _ _ _
      | exact LeO.none _
      | refine LeO.ite ?_ ?_
      | refine LeO.bind ?_ (fun _ => ?_)
def position_Last.T1 : Bool × List (List Nat × List Nat) := (true, [([], []), ([], []), ([1], [1]), ([2], [2]), ([0, 3, 2], [0, 3]), ([4], [4]), ([4], [4]), ([5, 4, 0, 1, 2, 3, 4, 5, 6], [5]), ([6, 7, 0, 1, 2, 3, 4, 5, 6, 7], [6])])
def position_Last.B1 : List Nat := [0, 0, 2, 6, 15, 31, 31, 127, 255]
theorem position_Last.tab1 : rtab .any (opsOf Tryd.f40 1) = position_Last.T1 := by kernel_rfl
theorem position_Last.bits1 : waitsOk position_Last.T1.2 position_Last.B1 = true := by kernel_rfl
set_option maxHeartbeats 8000000 in
set_option maxRecDepth 100000 in
theorem position_Last.calls (k : Nat) (a0_0 : Int) (a0_1 : ByteArray) (a0_2 : Int) (A0_3 : Option Addr) (c0_3 : Nat) (l0_3 : List (S36)) (r1 : List Int) (r2 : Int) (w : World) (hr0_3 : Kd.C k36 w A0_3 l0_3.length l0_3) (hc0_3 : l0_3.length ≤ c0_3) (h : position_Last.f k a0_0 a0_1 a0_2 l0_3 = some (r1, r2)) :
    Calls Tryd.prog 40 #[.agg #[.int .i64 a0_0, .string a0_1, .int .i64 a0_2, .slice A0_3 l0_3.length c0_3]] w fun e w' => ∃ v0_ : Value, e = .returned (.tuple #[v0_, .int .i64 r2]) ∧ Kd.V (Kd.int .i64) 3 w' w.heap.size (fun k_ => (w.heap.size ≤ k_)) v0_ r1 ∧ Below w.heap.size w w' := by
  have hu36 := Tryd.underlying36
  have HR0_3 := Aside0.mk hr0_3
  have HC0_3 := Aside0.mk hc0_3
  clear hr0_3 hc0_3
  have HB := Aside0.mk (Below.refl w.heap.size w)
  have H : ((position_Count.f k a0_0 a0_1 a0_2 l0_3).bind fun t556 => ((position_At.f k a0_0 a0_1 a0_2 l0_3 (wrap64 (t556 - 1))).bind fun bt557 => (some (bt557.1, bt557.2)))) = some (r1, r2) := h
  clear h
  replace H := Option.bind_eq_some_iff.mp H
  obtain ⟨t556, A20, H⟩ := H
  replace H : ((position_At.f k a0_0 a0_1 a0_2 l0_3 (wrap64 (t556 - 1))).bind fun bt557 => (some (bt557.1, bt557.2))) = some (r1, r2) := H
  have A2 := Aside0.mk A20
  clear A20
  replace H := Option.bind_eq_some_iff.mp H
  obtain ⟨⟨t557, t560⟩, A30, H⟩ := H
  replace H : (some (t557, t560)) = some (r1, r2) := H
  have A3 := Aside0.mk A30
  clear A30
  simp only [Option.some.injEq, Prod.mk.injEq] at H
  obtain ⟨rfl, rfl⟩ := H
  go_enter Tryd.func40, Tryd.ntmps40
  try go_wp2_with (first | ((with_reducible refine gate_dst (N := 1) rfl ?_); refine box_event ?hg (N := 1) ?hd (cs := #[.int .i64 a0_0, .string a0_1, .int .i64 a0_2, .slice A0_3 l0_3.length c0_3]) (t := 36) ?hr ?_; (case hd => rfl); (case hg => rfl); (case hr => first | (go_simp; done) | (go_simp; rfl)); intro gb555 hg w4 hbox hb; have n0_ := Aside0.mk (below_step (by repeat (first | (with_reducible first | exact HB.out | apply below_alloc | apply pw_below_drewN | apply below_drew1) | exact HB.out)) hb); have n1_ := Aside0.mk (hbox); have n2_ := Aside0.mk ((by rw [hg]; exact (below_size (by repeat (first | (with_reducible first | exact HB.out | apply below_alloc | apply pw_below_drewN | apply below_drew1) | exact HB.out))) : w.heap.size ≤ gb555)); have n3_ := Aside0.mk ((by rw [hg]; exact (below_size (by repeat (first | (with_reducible first | exact HB.out | apply below_alloc | apply pw_below_drewN | apply below_drew1) | exact HB.out))) : w.heap.size ≤ gb555)); clear HB; have HB := n0_; have BK555 := n1_; have GW555 := n2_; have GE555 := n3_; clear n0_ n1_ n2_ n3_; clear hb hbox hg))
  have n0_ := Aside0.mk (blk_drew BK555.out)
  have n1_ := Aside0.mk (below_drew1 HB.out)
  clear BK555
  clear HB
  have BK555 := n0_
  have HB := n1_
  clear n0_ n1_
  refine start_ (n := 9) (S := fun w' => w'.cell? ⟨gb555, 0, none⟩ = some (.int .i64 a0_0) ∧ w'.cell? ⟨gb555, 1, none⟩ = some (.string a0_1) ∧ w'.cell? ⟨gb555, 2, none⟩ = some (.int .i64 a0_2) ∧ w'.cell? ⟨gb555, 3, none⟩ = some (.slice A0_3 l0_3.length c0_3)) (ds := []) #[false, false, false, false, false, false, false, false, false] (by kernel_rfl) rfl rfl ⟨(blk_cell BK555.out 0).trans rfl, (blk_cell BK555.out 1).trans rfl, (blk_cell BK555.out 2).trans rfl, (blk_cell BK555.out 3).trans rfl⟩ (fun hHeld => ?_); refine with_tabW position_Last.tab1 position_Last.bits1 (fun HT_ HW_ => ?_)
  generalize w4.drew = w5 at BK555 HB hHeld ⊢
  refine take_ (i := 0) (N := some 4) (v := ?_) (a' := ?_) #[true, false, false, false, false, false, false, false, false] rfl rfl (take_ofW HT_.out HW_.out (by kernel_rfl)) (fun _ _ _ h => h) (Or.inl ⟨by rfl, ?_⟩) hHeld ?_ ?_
  rotate_left
  · rintro w' ⟨s0, s1, s2, s3⟩
    go_simp
    with_reducible rfl
  rotate_left
  · simp only [Act.put, List.setIfInBounds_toArray, List.set_cons_zero, List.set_cons_succ, i64_w, i32_w]
    rfl
  refine take_ (i := 1) (N := some 5) (v := ?_) (a' := ?_) #[true, true, false, false, false, false, false, false, false] rfl rfl (take_ofW HT_.out HW_.out (by kernel_rfl)) (fun _ _ _ h => h) (Or.inl ⟨by rfl, ?_⟩) hHeld ?_ ?_
  rotate_left
  · rintro w' ⟨s0, s1, s2, s3⟩
    go_simp
    with_reducible rfl
  rotate_left
  · simp only [Act.put, List.setIfInBounds_toArray, List.set_cons_zero, List.set_cons_succ, i64_w, i32_w]
    rfl
  refine one_ (i := 2) (N := some 6) #[true, true, true, false, false, false, false, false, false] rfl rfl (one_of HT_.out (by kernel_rfl)) (by decide) (fun K hK => ?_)
  refine goes_ Tryd.func43 (by kernel_rfl) rfl #[.agg #[.int .i64 a0_0, .string a0_1, .int .i64 a0_2, .slice A0_3 l0_3.length c0_3]] (by rfl) rfl rfl (by (try simp only [List.map_toArray, List.map_cons, List.map_nil]); first | done | rfl | (simp only [List.length_drop, List.length_take]; rfl)) ?_
  with_reducible refine (position_Count.calls k a0_0 a0_1 a0_2 _ _ l0_3 t556 _ ?side1 ?side2 A2.out).mono ?_
  (case side1 => repeat (first | exact (Kd.C_below HR0_3.out HB.out) | (with_reducible refine Kd.C_alloc ?_ _) | (with_reducible refine Kd.C_drewN ?_ _) | (with_reducible refine Kd.C_drew ?_)))
  (case side2 => exact HC0_3.out)
  rintro e w6 ⟨rfl, hb⟩
  refine ⟨_, rfl, ?_⟩
  have n0_ := Aside0.mk (blk_below (g := gb555) (o := .cells #[.int .i64 a0_0, .string a0_1, .int .i64 a0_2, .slice A0_3 l0_3.length c0_3] 36 (0, 0)) (by (with_reducible repeat (first | refine blk_drewN ?_ _ | refine blk_drew ?_ | refine blk_alloc ?_ _)); exact BK555.out) hb)
  have n1_ := Aside0.mk (below_step (by repeat (first | (with_reducible first | exact HB.out | apply below_alloc | apply pw_below_drewN | apply below_drew1 | refine below_set ?_ GE555.out) | exact HB.out)) hb)
  clear BK555
  clear HB
  have BK555 := n0_
  have HB := n1_
  clear n0_ n1_
  (try clear hb)
  (try clear hb2)
  (try clear hk)
  (try clear hi)
  refine hK.out _ _ ⟨(blk_cell BK555.out 0).trans rfl, (blk_cell BK555.out 1).trans rfl, (blk_cell BK555.out 2).trans rfl, (blk_cell BK555.out 3).trans rfl⟩ (fun hHeld => ?_)
  clear hK K
  refine norm_ (a' := ?_) ?_ ?_
  rotate_left
  · show Act.put _ (some 6) _ = _
    simp only [Act.put, List.setIfInBounds_toArray, List.set_cons_zero, List.set_cons_succ, i64_w, i32_w]
    rfl
  refine pure_ (i := 3) (N := some 7) (v := ?_) (a' := ?_) #[true, true, true, true, false, false, false, false, false] rfl rfl (any_of HT_.out (by kernel_rfl)) (fun _ _ _ h => h) (Or.inl ⟨by rfl, ?_⟩) ?_ ?_
  rotate_left
  · intro w'
    go_simp
    first | with_reducible rfl | (rw [own_len_N ?hl_ ?hu_]; (case hl_ => assumption); (case hu_ => kernel_rfl); (try with_reducible rfl)) | (rw [own_len_R ?hl_ ?hu_]; (case hl_ => assumption); (case hu_ => kernel_rfl); (try with_reducible rfl))
  rotate_left
  · simp only [Act.put, List.setIfInBounds_toArray, List.set_cons_zero, List.set_cons_succ, i64_w, i32_w]
    rfl
  refine one_ (i := 4) (N := some 8) #[true, true, true, true, true, false, false, false, false] rfl rfl (one_of HT_.out (by kernel_rfl)) (by decide) (fun K hK => ?_)
  refine goes_ Tryd.func29 (by kernel_rfl) rfl #[.agg #[.int .i64 a0_0, .string a0_1, .int .i64 a0_2, .slice A0_3 l0_3.length c0_3], .int .i64 (wrap64 (t556 - 1))] (by rfl) rfl rfl (by (try simp only [List.map_toArray, List.map_cons, List.map_nil]); first | done | rfl | (simp only [List.length_drop, List.length_take]; rfl)) ?_
  with_reducible refine (position_At.calls k a0_0 a0_1 a0_2 _ _ l0_3 (wrap64 (t556 - 1)) t557 t560 _ ?side1 ?side2 A3.out).mono ?_
  (case side1 => repeat (first | exact (Kd.C_below HR0_3.out HB.out) | (with_reducible refine Kd.C_alloc ?_ _) | (with_reducible refine Kd.C_drewN ?_ _) | (with_reducible refine Kd.C_drew ?_)))
  (case side2 => exact HC0_3.out)
  rintro e w7 ⟨v558, rfl, ho0, hb⟩
  refine ⟨_, rfl, ?_⟩
  have n0_ := Aside0.mk (Kd.V_lower (Kd.V_mono (ok' := fun k_ => (w.heap.size ≤ k_) ∧ k_ ≠ gb555) ho0 (fun k_ hk_ => ⟨(Nat.le_trans (below_size (by repeat (first | (with_reducible first | exact HB.out | apply below_alloc | apply pw_below_drewN | apply below_drew1 | refine below_set ?_ GE555.out) | exact HB.out))) hk_), (Kd.freshB (g := gb555) (o := .cells #[.int .i64 a0_0, .string a0_1, .int .i64 a0_2, .slice A0_3 l0_3.length c0_3] 36 (0, 0)) (by (with_reducible repeat (first | refine blk_drewN ?_ _ | refine blk_drew ?_ | refine blk_alloc ?_ _)); exact BK555.out) k_ hk_)⟩)) (below_size (by repeat (first | (with_reducible first | exact HB.out | apply below_alloc | apply pw_below_drewN | apply below_drew1 | refine below_set ?_ GE555.out) | exact HB.out))))
  have n1_ := Aside0.mk (blk_below (g := gb555) (o := .cells #[.int .i64 a0_0, .string a0_1, .int .i64 a0_2, .slice A0_3 l0_3.length c0_3] 36 (0, 0)) (by (with_reducible repeat (first | refine blk_drewN ?_ _ | refine blk_drew ?_ | refine blk_alloc ?_ _)); exact BK555.out) hb)
  have n2_ := Aside0.mk (below_step (by repeat (first | (with_reducible first | exact HB.out | apply below_alloc | apply pw_below_drewN | apply below_drew1 | refine below_set ?_ GE555.out) | exact HB.out)) hb)
  clear BK555
  clear HB
  have HO559 := n0_
  have BK555 := n1_
  have HB := n2_
  clear n0_ n1_ n2_
  (try clear hb)
  (try clear hb2)
  (try clear hk)
  (try clear hi)
  (try clear ho0)
  refine hK.out _ _ ⟨(blk_cell BK555.out 0).trans rfl, (blk_cell BK555.out 1).trans rfl, (blk_cell BK555.out 2).trans rfl, (blk_cell BK555.out 3).trans rfl⟩ (fun hHeld => ?_)
  clear hK K
  refine norm_ (a' := ?_) ?_ ?_
  rotate_left
  · show Act.put _ (some 8) _ = _
    simp only [Act.put, List.setIfInBounds_toArray, List.set_cons_zero, List.set_cons_succ, i64_w, i32_w]
    rfl
  refine pure_ (i := 5) (N := some 9) (v := ?_) (a' := ?_) #[true, true, true, true, true, true, false, false, false] rfl rfl (any_of HT_.out (by kernel_rfl)) (fun _ _ _ h => h) (Or.inl ⟨by rfl, ?_⟩) ?_ ?_
  rotate_left
  · intro w'
    go_simp
    first | with_reducible rfl | (rw [own_len_N ?hl_ ?hu_]; (case hl_ => assumption); (case hu_ => kernel_rfl); (try with_reducible rfl)) | (rw [own_len_R ?hl_ ?hu_]; (case hl_ => assumption); (case hu_ => kernel_rfl); (try with_reducible rfl))
  rotate_left
  · simp only [Act.put, List.setIfInBounds_toArray, List.set_cons_zero, List.set_cons_succ, i64_w, i32_w]
    rfl
  refine pure_ (i := 6) (N := some 10) (v := ?_) (a' := ?_) #[true, true, true, true, true, true, true, false, false] rfl rfl (any_of HT_.out (by kernel_rfl)) (fun _ _ _ h => h) (Or.inl ⟨by rfl, ?_⟩) ?_ ?_
  rotate_left
  · intro w'
    go_simp
    first | with_reducible rfl | (rw [own_len_N ?hl_ ?hu_]; (case hl_ => assumption); (case hu_ => kernel_rfl); (try with_reducible rfl)) | (rw [own_len_R ?hl_ ?hu_]; (case hl_ => assumption); (case hu_ => kernel_rfl); (try with_reducible rfl))
  rotate_left
  · simp only [Act.put, List.setIfInBounds_toArray, List.set_cons_zero, List.set_cons_succ, i64_w, i32_w]
    rfl
  refine pure_ (i := 7) (N := some 2) (v := ?_) (a' := ?_) #[true, true, true, true, true, true, true, true, false] rfl rfl (any_of HT_.out (by kernel_rfl)) (fun _ _ _ h => h) (Or.inl ⟨by rfl, ?_⟩) ?_ ?_
  rotate_left
  · intro w'
    go_simp
    first | with_reducible rfl | (rw [own_len_N ?hl_ ?hu_]; (case hl_ => assumption); (case hu_ => kernel_rfl); (try with_reducible rfl)) | (rw [own_len_R ?hl_ ?hu_]; (case hl_ => assumption); (case hu_ => kernel_rfl); (try with_reducible rfl))
  rotate_left
  · simp only [Act.put, List.setIfInBounds_toArray, List.set_cons_zero, List.set_cons_succ, i64_w, i32_w]
    rfl
  refine pure_ (i := 8) (N := some 3) (v := ?_) (a' := ?_) #[true, true, true, true, true, true, true, true, true] rfl rfl (any_of HT_.out (by kernel_rfl)) (fun _ _ _ h => h) (Or.inl ⟨by rfl, ?_⟩) ?_ ?_
  rotate_left
  · intro w'
    go_simp
    first | with_reducible rfl | (rw [own_len_N ?hl_ ?hu_]; (case hl_ => assumption); (case hu_ => kernel_rfl); (try with_reducible rfl)) | (rw [own_len_R ?hl_ ?hu_]; (case hl_ => assumption); (case hu_ => kernel_rfl); (try with_reducible rfl))
  rotate_left
  · simp only [Act.put, List.setIfInBounds_toArray, List.set_cons_zero, List.set_cons_succ, i64_w, i32_w]
    rfl
  refine done_ (done_of HT_.out (by kernel_rfl)) ?_
  try go_wp2
  go_ret2
  exact ⟨_, by first | rfl | (simp [errW_none, errW_some] <;> rfl) | (simp [*, errW_none, errW_some] <;> rfl), by (with_reducible repeat (first | apply Kd.V_alloc | apply Kd.V_drewN | apply Kd.V_drew)); exact Kd.V_mono HO559.out (fun _ hk => hk.1), by repeat (first | (with_reducible first | exact HB.out | apply below_alloc | apply pw_below_drewN | apply below_drew1 | refine below_set ?_ GE555.out) | exact HB.out)⟩
end Go.Proofs.YtagkhoeidjlahaaDoor.G
namespace Go.Proofs.YtagkhoeidjlahaaDoor.G
open Go.RowKit Go.Proofs.YtagkhoeidjlahaaDoorW.PrintWords Go.Proofs.YtagkhoeidjlahaaDoorW.PrintLast Go.Proofs.YtagkhoeidjlahaaDoorW.PrintMore
attribute [local go_sem] max2_int min2_int max_two min_two max_three min_three max_four min_four
set_option linter.unusedVariables false
set_option linter.unusedSimpArgs false
def position_Valid.f (k : Nat) (a0_0 : Int) (a0_1 : ByteArray) (a0_2 : Int) (l0_3 : List (S36)) (l1 : List Int) : Option (Bool) := (position_Index.f k a0_0 a0_1 a0_2 l0_3 l1).bind fun bt612 => (some (bt612.2 == 0))
theorem position_Valid.mono : ∀ a0 a1 a2 a3 a4 k, LeO (position_Valid.f k a0 a1 a2 a3 a4) (position_Valid.f (k + 1) a0 a1 a2 a3 a4) := by
  intro a0 a1 a2 a3 a4 k
  unfold position_Valid.f
  repeat' first
      | (with_reducible exact position_Index.mono _ _ _ _ _ _)
      | (with_reducible exact LeO.refl _)
      | (with_reducible exact LeO.none _)
      | (with_reducible refine LeO.ite ?_ ?_)
      | (with_reducible refine LeO.bind ?_ (fun _ => ?_))
      | exact position_Index.mono _ _ _ _ _ _
      | exact LeO.none _
      | refine LeO.ite ?_ ?_
      | refine LeO.bind ?_ (fun _ => ?_)
set_option maxHeartbeats 8000000 in
set_option maxRecDepth 100000 in
theorem position_Valid.calls (k : Nat) (a0_0 : Int) (a0_1 : ByteArray) (a0_2 : Int) (A0_3 : Option Addr) (c0_3 : Nat) (l0_3 : List (S36)) (A1 : Option Addr) (c1 : Nat) (l1 : List Int) (r : Bool) (w : World) (hr0_3 : Kd.C k36 w A0_3 l0_3.length l0_3) (hc0_3 : l0_3.length ≤ c0_3) (hr1 : Kd.C (Kd.int .i64) w A1 l1.length l1) (hc1 : l1.length ≤ c1) (h : position_Valid.f k a0_0 a0_1 a0_2 l0_3 l1 = some r) :
    Calls Tryd.prog 41 #[.agg #[.int .i64 a0_0, .string a0_1, .int .i64 a0_2, .slice A0_3 l0_3.length c0_3], .slice A1 l1.length c1] w fun e w' => e = .returned (.bool r) ∧ Below w.heap.size w w' := by
  have hu36 := Tryd.underlying36
  have HR0_3 := Aside0.mk hr0_3
  have HC0_3 := Aside0.mk hc0_3
  clear hr0_3 hc0_3
  have HR1 := Aside0.mk hr1
  have HC1 := Aside0.mk hc1
  clear hr1 hc1
  have HB := Aside0.mk (Below.refl w.heap.size w)
  have H : ((position_Index.f k a0_0 a0_1 a0_2 l0_3 l1).bind fun bt612 => (some (bt612.2 == 0))) = some r := h
  clear h
  replace H := Option.bind_eq_some_iff.mp H
  obtain ⟨⟨t612, t613⟩, A30, H⟩ := H
  replace H : (some (t613 == 0)) = some r := H
  have A3 := Aside0.mk A30
  clear A30
  obtain rfl := Option.some.inj H
  go_enter Tryd.func41, Tryd.ntmps41
  go_wp2_with (first | ((with_reducible refine gate_dst (N := 2) rfl ?_); refine box_event ?hg (N := 2) ?hd (cs := #[.int .i64 a0_0, .string a0_1, .int .i64 a0_2, .slice A0_3 l0_3.length c0_3]) (t := 36) ?hr ?_; (case hd => rfl); (case hg => rfl); (case hr => first | (go_simp; done) | (go_simp; rfl)); intro gb611 hg w4 hbox hb; have n0_ := Aside0.mk (below_step (by repeat (first | (with_reducible first | exact HB.out | apply below_alloc | apply pw_below_drewN | apply below_drew1) | exact HB.out)) hb); have n1_ := Aside0.mk (hbox); have n2_ := Aside0.mk ((by rw [hg]; exact (below_size (by repeat (first | (with_reducible first | exact HB.out | apply below_alloc | apply pw_below_drewN | apply below_drew1) | exact HB.out))) : w.heap.size ≤ gb611)); have n3_ := Aside0.mk ((by rw [hg]; exact (below_size (by repeat (first | (with_reducible first | exact HB.out | apply below_alloc | apply pw_below_drewN | apply below_drew1) | exact HB.out))) : w.heap.size ≤ gb611)); clear HB; have HB := n0_; have BK611 := n1_; have GW611 := n2_; have GE611 := n3_; clear n0_ n1_ n2_ n3_; clear hb hbox hg; have hcz5_0 : w4.cell? ⟨gb611, 0, none⟩ = some (.int .i64 a0_0) := (blk_cell BK611.out 0).trans rfl; have hcz5_1 : w4.cell? ⟨gb611, 1, none⟩ = some (.string a0_1) := (blk_cell BK611.out 1).trans rfl; have hcz5_2 : w4.cell? ⟨gb611, 2, none⟩ = some (.int .i64 a0_2) := (blk_cell BK611.out 2).trans rfl; have hcz5_3 : w4.cell? ⟨gb611, 3, none⟩ = some (.slice A0_3 l0_3.length c0_3) := (blk_cell BK611.out 3).trans rfl; have hfz5_0 := blk_frozen BK611.out 0; have hfz5_1 := blk_frozen BK611.out 1; have hfz5_2 := blk_frozen BK611.out 2; have hfz5_3 := blk_frozen BK611.out 3) | ((with_reducible refine gate_callee (f := 27) rfl ?_); refine goesL_ (some 10) rfl rfl Tryd.func27 (by kernel_rfl) rfl #[.agg #[.int .i64 a0_0, .string a0_1, .int .i64 a0_2, .slice A0_3 l0_3.length c0_3], .slice A1 l1.length c1] rfl (by (try simp only [List.map_toArray, List.map_cons, List.map_nil]); first | done | rfl | (simp only [List.length_drop, List.length_take]; rfl)) ?_; (with_reducible refine (position_Index.calls k a0_0 a0_1 a0_2 _ _ l0_3 _ _ l1 t612 t613 _ ?side1 ?side2 ?side3 ?side4 A3.out).mono ?_); (case side1 => repeat (first | exact (Kd.C_below HR0_3.out HB.out) | (with_reducible refine Kd.C_alloc ?_ _) | (with_reducible refine Kd.C_drewN ?_ _) | (with_reducible refine Kd.C_drew ?_))); (case side2 => exact HC0_3.out); (case side3 => repeat (first | exact (Kd.C_below HR1.out HB.out) | (with_reducible refine Kd.C_alloc ?_ _) | (with_reducible refine Kd.C_drewN ?_ _) | (with_reducible refine Kd.C_drew ?_))); (case side4 => exact HC1.out); rintro e w6 ⟨rfl, hb⟩; refine ⟨_, rfl, ?_⟩; have n0_ := Aside0.mk (blk_below (g := gb611) (o := .cells #[.int .i64 a0_0, .string a0_1, .int .i64 a0_2, .slice A0_3 l0_3.length c0_3] 36 (0, 0)) (by (with_reducible repeat (first | refine blk_drewN ?_ _ | refine blk_drew ?_ | refine blk_alloc ?_ _)); exact BK611.out) hb); have n1_ := Aside0.mk (below_step (by repeat (first | (with_reducible first | exact HB.out | apply below_alloc | apply pw_below_drewN | apply below_drew1 | refine below_set ?_ GE611.out) | exact HB.out)) hb); clear BK611; clear HB; have BK611 := n0_; have HB := n1_; clear n0_ n1_; (try clear hb); (try clear hb2); (try clear hk); (try clear hi)))
  go_ret
  exact ⟨by first | rfl | (simp [errW_none, errW_some] <;> rfl) | (simp [*, errW_none, errW_some] <;> rfl), by repeat (first | (with_reducible first | exact HB.out | apply below_alloc | apply pw_below_drewN | apply below_drew1 | refine below_set ?_ GE611.out) | exact HB.out)⟩
end Go.Proofs.YtagkhoeidjlahaaDoor.G
namespace Go.Proofs.YtagkhoeidjlahaaDoor.G
open Go.RowKit Go.Proofs.YtagkhoeidjlahaaDoorW.PrintWords Go.Proofs.YtagkhoeidjlahaaDoorW.PrintLast Go.Proofs.YtagkhoeidjlahaaDoorW.PrintMore
attribute [local go_sem] max2_int min2_int max_two min_two max_three min_three max_four min_four
set_option linter.unusedVariables false
set_option linter.unusedSimpArgs false
def vinculumref10_Valid.f (k : Nat) (a0_0 : Int) (a0_1 : ByteArray) (a0_2 : Int) (l0_3 : List (S36)) (l1 : List Int) : Option (Bool) := (vinculumref10_Index.f k a0_0 a0_1 a0_2 l0_3 l1).bind fun bt615 => (some (bt615.2 == 0))
theorem vinculumref10_Valid.mono : ∀ a0 a1 a2 a3 a4 k, LeO (vinculumref10_Valid.f k a0 a1 a2 a3 a4) (vinculumref10_Valid.f (k + 1) a0 a1 a2 a3 a4) := by
  intro a0 a1 a2 a3 a4 k
  unfold vinculumref10_Valid.f
  repeat' first
      | (with_reducible exact vinculumref10_Index.mono _ _ _ _ _ _)
      | (with_reducible exact LeO.refl _)
      | (with_reducible exact LeO.none _)
      | (with_reducible refine LeO.ite ?_ ?_)
      | (with_reducible refine LeO.bind ?_ (fun _ => ?_))
      | exact vinculumref10_Index.mono _ _ _ _ _ _
      | exact LeO.none _
      | refine LeO.ite ?_ ?_
      | refine LeO.bind ?_ (fun _ => ?_)
set_option maxHeartbeats 8000000 in
set_option maxRecDepth 100000 in
theorem vinculumref10_Valid.calls (k : Nat) (a0_0 : Int) (a0_1 : ByteArray) (a0_2 : Int) (A0_3 : Option Addr) (c0_3 : Nat) (l0_3 : List (S36)) (A1 : Option Addr) (c1 : Nat) (l1 : List Int) (r : Bool) (w : World) (hr0_3 : Kd.C k36 w A0_3 l0_3.length l0_3) (hc0_3 : l0_3.length ≤ c0_3) (hr1 : Kd.C (Kd.int .i64) w A1 l1.length l1) (hc1 : l1.length ≤ c1) (h : vinculumref10_Valid.f k a0_0 a0_1 a0_2 l0_3 l1 = some r) :
    Calls Tryd.prog 42 #[.agg #[.int .i64 a0_0, .string a0_1, .int .i64 a0_2, .slice A0_3 l0_3.length c0_3], .slice A1 l1.length c1] w fun e w' => e = .returned (.bool r) ∧ Below w.heap.size w w' := by
  have hu36 := Tryd.underlying36
  have HR0_3 := Aside0.mk hr0_3
  have HC0_3 := Aside0.mk hc0_3
  clear hr0_3 hc0_3
  have HR1 := Aside0.mk hr1
  have HC1 := Aside0.mk hc1
  clear hr1 hc1
  have HB := Aside0.mk (Below.refl w.heap.size w)
  have H : ((vinculumref10_Index.f k a0_0 a0_1 a0_2 l0_3 l1).bind fun bt615 => (some (bt615.2 == 0))) = some r := h
  clear h
  replace H := Option.bind_eq_some_iff.mp H
  obtain ⟨⟨t615, t616⟩, A30, H⟩ := H
  replace H : (some (t616 == 0)) = some r := H
  have A3 := Aside0.mk A30
  clear A30
  obtain rfl := Option.some.inj H
  go_enter Tryd.func42, Tryd.ntmps42
  go_wp2_with (first | ((with_reducible refine gate_dst (N := 2) rfl ?_); refine box_event ?hg (N := 2) ?hd (cs := #[.int .i64 a0_0, .string a0_1, .int .i64 a0_2, .slice A0_3 l0_3.length c0_3]) (t := 36) ?hr ?_; (case hd => rfl); (case hg => rfl); (case hr => first | (go_simp; done) | (go_simp; rfl)); intro gb614 hg w4 hbox hb; have n0_ := Aside0.mk (below_step (by repeat (first | (with_reducible first | exact HB.out | apply below_alloc | apply pw_below_drewN | apply below_drew1) | exact HB.out)) hb); have n1_ := Aside0.mk (hbox); have n2_ := Aside0.mk ((by rw [hg]; exact (below_size (by repeat (first | (with_reducible first | exact HB.out | apply below_alloc | apply pw_below_drewN | apply below_drew1) | exact HB.out))) : w.heap.size ≤ gb614)); have n3_ := Aside0.mk ((by rw [hg]; exact (below_size (by repeat (first | (with_reducible first | exact HB.out | apply below_alloc | apply pw_below_drewN | apply below_drew1) | exact HB.out))) : w.heap.size ≤ gb614)); clear HB; have HB := n0_; have BK614 := n1_; have GW614 := n2_; have GE614 := n3_; clear n0_ n1_ n2_ n3_; clear hb hbox hg; have hcz5_0 : w4.cell? ⟨gb614, 0, none⟩ = some (.int .i64 a0_0) := (blk_cell BK614.out 0).trans rfl; have hcz5_1 : w4.cell? ⟨gb614, 1, none⟩ = some (.string a0_1) := (blk_cell BK614.out 1).trans rfl; have hcz5_2 : w4.cell? ⟨gb614, 2, none⟩ = some (.int .i64 a0_2) := (blk_cell BK614.out 2).trans rfl; have hcz5_3 : w4.cell? ⟨gb614, 3, none⟩ = some (.slice A0_3 l0_3.length c0_3) := (blk_cell BK614.out 3).trans rfl; have hfz5_0 := blk_frozen BK614.out 0; have hfz5_1 := blk_frozen BK614.out 1; have hfz5_2 := blk_frozen BK614.out 2; have hfz5_3 := blk_frozen BK614.out 3) | ((with_reducible refine gate_callee (f := 28) rfl ?_); refine goesL_ (some 10) rfl rfl Tryd.func28 (by kernel_rfl) rfl #[.agg #[.int .i64 a0_0, .string a0_1, .int .i64 a0_2, .slice A0_3 l0_3.length c0_3], .slice A1 l1.length c1] rfl (by (try simp only [List.map_toArray, List.map_cons, List.map_nil]); first | done | rfl | (simp only [List.length_drop, List.length_take]; rfl)) ?_; (with_reducible refine (vinculumref10_Index.calls k a0_0 a0_1 a0_2 _ _ l0_3 _ _ l1 t615 t616 _ ?side1 ?side2 ?side3 ?side4 A3.out).mono ?_); (case side1 => repeat (first | exact (Kd.C_below HR0_3.out HB.out) | (with_reducible refine Kd.C_alloc ?_ _) | (with_reducible refine Kd.C_drewN ?_ _) | (with_reducible refine Kd.C_drew ?_))); (case side2 => exact HC0_3.out); (case side3 => repeat (first | exact (Kd.C_below HR1.out HB.out) | (with_reducible refine Kd.C_alloc ?_ _) | (with_reducible refine Kd.C_drewN ?_ _) | (with_reducible refine Kd.C_drew ?_))); (case side4 => exact HC1.out); rintro e w6 ⟨rfl, hb⟩; refine ⟨_, rfl, ?_⟩; have n0_ := Aside0.mk (blk_below (g := gb614) (o := .cells #[.int .i64 a0_0, .string a0_1, .int .i64 a0_2, .slice A0_3 l0_3.length c0_3] 36 (0, 0)) (by (with_reducible repeat (first | refine blk_drewN ?_ _ | refine blk_drew ?_ | refine blk_alloc ?_ _)); exact BK614.out) hb); have n1_ := Aside0.mk (below_step (by repeat (first | (with_reducible first | exact HB.out | apply below_alloc | apply pw_below_drewN | apply below_drew1 | refine below_set ?_ GE614.out) | exact HB.out)) hb); clear BK614; clear HB; have BK614 := n0_; have HB := n1_; clear n0_ n1_; (try clear hb); (try clear hb2); (try clear hk); (try clear hi)))
  go_ret
  exact ⟨by first | rfl | (simp [errW_none, errW_some] <;> rfl) | (simp [*, errW_none, errW_some] <;> rfl), by repeat (first | (with_reducible first | exact HB.out | apply below_alloc | apply pw_below_drewN | apply below_drew1 | refine below_set ?_ GE614.out) | exact HB.out)⟩
end Go.Proofs.YtagkhoeidjlahaaDoor.G
namespace Go.Proofs.YtagkhoeidjlahaaDoor.G
open Go.RowKit Go.Proofs.YtagkhoeidjlahaaDoorW.PrintWords Go.Proofs.YtagkhoeidjlahaaDoorW.PrintLast Go.Proofs.YtagkhoeidjlahaaDoorW.PrintMore
attribute [local go_sem] max2_int min2_int max_two min_two max_three min_three max_four min_four
set_option linter.unusedVariables false
set_option linter.unusedSimpArgs false
def vinculumref10_Same.f (k : Nat) (l0 : List Int) (l1 : List Int) : Option (Bool) := (vinculumref10_Compare.f k l0 l1).bind fun t389 => (some (t389 == 0))
theorem vinculumref10_Same.mono : ∀ a0 a1 k, LeO (vinculumref10_Same.f k a0 a1) (vinculumref10_Same.f (k + 1) a0 a1) := by
  intro a0 a1 k
  unfold vinculumref10_Same.f
  repeat' first
      | (with_reducible exact vinculumref10_Compare.mono _ _ _)
      | (with_reducible exact LeO.refl _)
      | (with_reducible exact LeO.none _)
      | (with_reducible refine LeO.ite ?_ ?_)
      | (with_reducible refine LeO.bind ?_ (fun _ => ?_))
      | exact vinculumref10_Compare.mono _ _ _
      | exact LeO.none _
      | refine LeO.ite ?_ ?_
      | refine LeO.bind ?_ (fun _ => ?_)
set_option maxHeartbeats 8000000 in
set_option maxRecDepth 100000 in
theorem vinculumref10_Same.calls (k : Nat) (A0 : Option Addr) (c0 : Nat) (l0 : List Int) (A1 : Option Addr) (c1 : Nat) (l1 : List Int) (r : Bool) (w : World) (hr0 : Kd.C (Kd.int .i64) w A0 l0.length l0) (hc0 : l0.length ≤ c0) (hr1 : Kd.C (Kd.int .i64) w A1 l1.length l1) (hc1 : l1.length ≤ c1) (h : vinculumref10_Same.f k l0 l1 = some r) :
    Calls Tryd.prog 31 #[.slice A0 l0.length c0, .slice A1 l1.length c1] w fun e w' => e = .returned (.bool r) ∧ Drawn0 w w' := by
  have HR0 := Aside0.mk hr0
  have HC0 := Aside0.mk hc0
  clear hr0 hc0
  have HR1 := Aside0.mk hr1
  have HC1 := Aside0.mk hc1
  clear hr1 hc1
  have H : ((vinculumref10_Compare.f k l0 l1).bind fun t389 => (some (t389 == 0))) = some r := h
  clear h
  replace H := Option.bind_eq_some_iff.mp H
  obtain ⟨t389, A30, H⟩ := H
  replace H : (some (t389 == 0)) = some r := H
  have A3 := Aside0.mk A30
  clear A30
  obtain rfl := Option.some.inj H
  go_enter Tryd.func31, Tryd.ntmps31
  go_wp2_with (first | ((with_reducible refine gate_callee (f := 33) rfl ?_); refine goesL_ (some 7) rfl rfl Tryd.func33 (by kernel_rfl) rfl #[.slice A0 l0.length c0, .slice A1 l1.length c1] rfl (by (try simp only [List.map_toArray, List.map_cons, List.map_nil]); first | done | rfl | (simp only [List.length_drop, List.length_take]; rfl)) ?_; (with_reducible refine (vinculumref10_Compare.calls k _ _ l0 _ _ l1 t389 _ ?side1 ?side2 ?side3 ?side4 A3.out).mono ?_); (case side1 => repeat (first | exact HR0.out | (with_reducible refine Kd.C_alloc ?_ _) | (with_reducible refine Kd.C_drewN ?_ _) | (with_reducible refine Kd.C_drew ?_))); (case side2 => exact HC0.out); (case side3 => repeat (first | exact HR1.out | (with_reducible refine Kd.C_alloc ?_ _) | (with_reducible refine Kd.C_drewN ?_ _) | (with_reducible refine Kd.C_drew ?_))); (case side4 => exact HC1.out); rintro e w' ⟨rfl, ⟨nd, rfl⟩⟩; refine ⟨_, rfl, ?_⟩))
  go_ret
  exact ⟨by first | rfl | (simp; done) | (simp [*]; done), by repeat (first | exact Drawn0.refl _ | apply Drawn0.step)⟩
end Go.Proofs.YtagkhoeidjlahaaDoor.G
namespace Go.Proofs.YtagkhoeidjlahaaDoor.G.Pure
open Go.Proofs.YtagkhoeidjlahaaDoorW.PrintWords Go.RowKit
set_option linter.unusedVariables false
set_option linter.unusedSimpArgs false
def cmpL : List Int → List Int → Int
  | [], [] => 0
  | [], _ :: _ => -1
  | _ :: _, [] => 1
  | a :: al, b :: bl => if a < b then -1 else if b < a then 1 else cmpL al bl
theorem cmpL_self : ∀ a, cmpL a a = 0
  | [] => rfl
  | a :: al => by rw [cmpL, if_neg (by omega), if_neg (by omega)]; exact cmpL_self al
theorem cmpL_zero : ∀ {a b}, cmpL a b = 0 → a = b
  | [], [], _ => rfl
  | [], _ :: _, h => by simp [cmpL] at h
  | _ :: _, [], h => by simp [cmpL] at h
  | a :: al, b :: bl, h => by
    rw [cmpL] at h
    split at h
    · simp at h
    · split at h
      · simp at h
      · rw [cmpL_zero h, show a = b by omega]
theorem cmpL_neg : ∀ a b, cmpL b a = - cmpL a b
  | [], [] => rfl
  | [], _ :: _ => rfl
  | _ :: _, [] => rfl
  | a :: al, b :: bl => by
    rw [cmpL, cmpL]
    rcases Int.lt_trichotomy a b with h | h | h
    · rw [if_neg (by omega), if_pos h, if_pos h]; rfl
    · rw [if_neg (by omega), if_neg (by omega), if_neg (by omega), if_neg (by omega)]; exact cmpL_neg al bl
    · rw [if_pos h, if_neg (by omega), if_pos h]
theorem cmpL_trans : ∀ a b c, cmpL a b < 0 → cmpL b c < 0 → cmpL a c < 0
  | [], [], _, h, _ => by simp [cmpL] at h
  | [], _ :: _, [], _, h => by simp [cmpL] at h
  | [], _ :: _, _ :: _, _, _ => by simp [cmpL]
  | _ :: _, [], _, h, _ => by simp [cmpL] at h
  | _ :: _, _ :: _, [], _, h => by simp [cmpL] at h
  | a :: al, b :: bl, c :: cl, h, k => by
    rw [cmpL] at h k ⊢
    rcases Int.lt_trichotomy a b with h1 | h1 | h1
    · rcases Int.lt_trichotomy b c with h2 | h2 | h2
      · rw [if_pos (by omega)]; decide
      · rw [if_pos (by omega)]; decide
      · rw [if_neg (by omega), if_pos h2] at k; simp at k
    · rw [if_neg (by omega), if_neg (by omega)] at h
      rcases Int.lt_trichotomy b c with h2 | h2 | h2
      · rw [if_pos (by omega)]; decide
      · rw [if_neg (by omega), if_neg (by omega)] at k ⊢; exact cmpL_trans al bl cl h k
      · rw [if_neg (by omega), if_pos h2] at k; simp at k
    · rw [if_neg (by omega), if_pos h1] at h; simp at h
theorem cmpL_app : ∀ p a b, cmpL (p ++ a) (p ++ b) = cmpL a b
  | [], a, b => rfl
  | x :: p, a, b => by rw [List.cons_append, List.cons_append, cmpL, if_neg (by omega), if_neg (by omega)]; exact cmpL_app p a b
theorem rd_at (l : List Int) (i : Nat) (h : i < l.length) : rd l i = l[i] := by simp [rd, h]
theorem cmpI_eq (a b : Int) : cmp_Compare_int.f a b = some (if a < b then -1 else if b < a then 1 else 0) := by
  unfold cmp_Compare_int.f cmp_isNaN_int.f
  simp
  split
  · rfl
  · split <;> rfl
theorem pCmp_l (a b : List Int) (ha : a.length ≤ M) : ∀ (m i : Nat), a.length - i = m → i ≤ a.length → Ev (fun k => slices_Compare_int_int.l0 k a b a a.length i) (cmpL (a.drop i) (b.drop i)) := by
  intro m
  unfold M at ha
  induction m with
  | zero =>
    intro i hi hi2
    refine Ev.step (fun k => by rw [slices_Compare_int_int.l0]) ?_
    refine ev_if (fun h => by omega) fun _ => ?_
    rw [List.drop_eq_nil_of_le (by omega)]
    refine ev_if (fun h => ev_now ?_) fun h => ev_now ?_
    · rw [List.drop_eq_getElem_cons (show i < b.length by omega), cmpL]
    · rw [List.drop_eq_nil_of_le (by omega), cmpL]
  | succ m ih =>
    intro i hi hi2
    have hil : i < a.length := by omega
    refine Ev.step (fun k => by rw [slices_Compare_int_int.l0]) ?_
    refine ev_if (fun _ => ?_) fun h => by omega
    refine ev_if (fun _ => ?_) fun h => by omega
    refine ev_if (fun _ => ?_) fun h => by omega
    rw [List.drop_eq_getElem_cons hil]
    refine ev_if (fun h => ev_now ?_) fun h => ?_
    · rw [List.drop_eq_nil_of_le (show b.length ≤ i by omega), cmpL]
    · refine ev_if (fun _ => ?_) fun h => by omega
      rw [List.drop_eq_getElem_cons (show i < b.length by omega), cmpL, rd_at a i hil, rd_at b i (by omega), cmpI_eq]
      refine ev_bind (Ev.now _) ?_
      rcases Int.lt_trichotomy a[i] b[i] with h1 | h1 | h1
      · rw [if_pos h1, if_pos h1]; exact ev_if (fun h => by simp at h) fun _ => Ev.now _
      · rw [if_neg (by omega), if_neg (by omega), if_neg (by omega), if_neg (by omega)]
        refine ev_if (fun _ => ?_) fun h => absurd rfl h
        rw [wr (n := (i : Int) + 1) (by omega)]
        have := ih (i + 1) (by omega) (by omega)
        exact_mod_cast this
      · rw [if_neg (by omega), if_pos h1, if_neg (by omega), if_pos h1]; exact ev_if (fun h => by simp at h) fun _ => Ev.now _
theorem pCmp_ev (a b : List Int) (ha : a.length ≤ M) : Ev (fun k => position_Compare.f k a b) (cmpL a b) := by
  unfold position_Compare.f slices_Compare_int_int.f
  have := pCmp_l a b ha a.length 0 rfl (by omega)
  exact ev_bind (by simpa using this) (Ev.now _)
theorem rCmp_l (a b : List Int) (ha : a.length ≤ M) : ∀ (m i : Nat), a.length - i = m → i ≤ a.length → i ≤ b.length → Ev (fun k => vinculumref10_Compare.l0 k a b i) (cmpL (a.drop i) (b.drop i)) := by
  intro m
  unfold M at ha
  have last : ∀ i : Nat, i ≤ a.length → i ≤ b.length → (i = a.length ∨ i = b.length) → Ev (fun k => vinculumref10_Compare.j1 k a b i false) (cmpL (a.drop i) (b.drop i)) := by
    intro i h1 h2 h3
    refine Ev.step (fun k => by rw [vinculumref10_Compare.j1]) ?_
    refine ev_if (fun h => by cases h) fun _ => ?_
    rcases Nat.lt_trichotomy a.length b.length with h | h | h
    · refine ev_if (fun _ => ev_now ?_) fun h' => by omega
      rw [List.drop_eq_nil_of_le (show a.length ≤ i by omega), List.drop_eq_getElem_cons (show i < b.length by omega), cmpL]
    · refine ev_if (fun h' => by omega) fun _ => ?_
      refine ev_if (fun h' => by omega) fun _ => ev_now ?_
      rw [List.drop_eq_nil_of_le (show a.length ≤ i by omega), List.drop_eq_nil_of_le (show b.length ≤ i by omega), cmpL]
    · refine ev_if (fun h' => by omega) fun _ => ?_
      refine ev_if (fun _ => ev_now ?_) fun h' => by omega
      rw [List.drop_eq_nil_of_le (show b.length ≤ i by omega), List.drop_eq_getElem_cons (show i < a.length by omega), cmpL]
  induction m with
  | zero =>
    intro i hi hi2 hi3
    refine Ev.step (fun k => by rw [vinculumref10_Compare.l0]) ?_
    refine ev_if (fun h => by omega) fun _ => ?_
    exact last i hi2 hi3 (.inl (by omega))
  | succ m ih =>
    intro i hi hi2 hi3
    have hil : i < a.length := by omega
    refine Ev.step (fun k => by rw [vinculumref10_Compare.l0]) ?_
    refine ev_if (fun _ => ?_) fun h => by omega
    by_cases hb : i < b.length
    · rw [decide_eq_true (show (i : Int) < (b.length : Int) by omega)]
      refine Ev.step (fun k => by rw [vinculumref10_Compare.j1]) ?_
      refine ev_if (fun _ => ?_) fun h => absurd rfl h
      refine ev_if (fun _ => ?_) fun h => by omega
      refine ev_if (fun _ => ?_) fun h => by omega
      refine ev_if (fun _ => ?_) fun h => by omega
      rw [List.drop_eq_getElem_cons hil, List.drop_eq_getElem_cons hb, cmpL, rd_at a i hil, rd_at b i hb]
      refine ev_if (fun h => ev_now ?_) fun h1 => ?_
      · rw [if_pos h]
      rw [if_neg h1]
      refine ev_if (fun h => ev_now ?_) fun h2 => ?_
      · rw [if_pos (by omega)]
      rw [if_neg (by omega), wr (n := (i : Int) + 1) (by omega)]
      have := ih (i + 1) (by omega) (by omega) (by omega)
      exact_mod_cast this
    · rw [decide_eq_false (show ¬ (i : Int) < (b.length : Int) by omega)]
      exact last i hi2 hi3 (.inr (by omega))
theorem rCmp_ev (a b : List Int) (ha : a.length ≤ M) : Ev (fun k => vinculumref10_Compare.f k a b) (cmpL a b) := by
  unfold vinculumref10_Compare.f
  have := rCmp_l a b ha a.length 0 rfl (by omega) (by omega)
  simpa using this
theorem same_ev (a b : List Int) (ha : a.length ≤ M) : Ev (fun k => vinculumref10_Same.f k a b) (cmpL a b == 0) := by
  unfold vinculumref10_Same.f
  exact ev_bind (rCmp_ev a b ha) (Ev.now _)
theorem same_self (a : List Int) (ha : a.length ≤ M) : Ev (fun k => vinculumref10_Same.f k a a) true := by
  have := same_ev a a ha
  rw [cmpL_self] at this
  exact this
mutual
theorem kids_mem : ∀ (p : List Int) (i : Int) (l : List S36) (q : List Int), q ∈ posKids p i l → ∃ j r, q = p ++ j :: r ∧ i ≤ j
  | p, i, [], q, h => by
    rw [posKids, List.mem_singleton] at h
    exact ⟨i, [], h, Int.le_refl _⟩
  | p, i, x :: l, q, h => by
    rw [posKids, List.mem_cons, List.mem_append] at h
    rcases h with h | h | h
    · exact ⟨i, [], h, Int.le_refl _⟩
    · obtain ⟨s, r, h2⟩ := item_mem p i x q h
      exact ⟨i, s :: r, h2, Int.le_refl _⟩
    · obtain ⟨j, r, h2, h3⟩ := kids_mem p (i + 1) l q h
      exact ⟨j, r, h2, by omega⟩
theorem item_mem : ∀ (p : List Int) (i : Int) (x : S36) (q : List Int), q ∈ posItem p i x → ∃ s r, q = p ++ i :: s :: r
  | p, i, ⟨_, _, _, l⟩, q, h => by
    rw [posItem] at h
    obtain ⟨s, r, h2, _⟩ := slots_mem p i 0 l q h
    exact ⟨s, r, h2⟩
theorem slots_mem : ∀ (p : List Int) (i s : Int) (l : List S36) (q : List Int), q ∈ posSlots p i s l → ∃ t r, q = p ++ i :: t :: r ∧ s ≤ t
  | p, i, s, [], q, h => by simp [posSlots] at h
  | p, i, s, y :: l, q, h => by
    rw [posSlots, List.mem_append] at h
    rcases h with h | h
    · obtain ⟨r, h2⟩ := slot_mem (p ++ [i, s]) y q h
      exact ⟨s, r, by rw [h2]; simp, Int.le_refl _⟩
    · obtain ⟨t, r, h2, h3⟩ := slots_mem p i (s + 1) l q h
      exact ⟨t, r, h2, by omega⟩
theorem slot_mem : ∀ (p : List Int) (y : S36) (q : List Int), q ∈ posSlot p y → ∃ r, q = p ++ r
  | p, ⟨_, _, _, l⟩, q, h => by
    rw [posSlot] at h
    obtain ⟨j, r, h2, _⟩ := kids_mem p 0 l q h
    exact ⟨j :: r, h2⟩
end
def Srt (l : List (List Int)) : Prop := l.Pairwise fun a b => cmpL a b < 0
mutual
theorem kids_srt : ∀ (p : List Int) (i : Int) (l : List S36), Srt (posKids p i l)
  | p, i, [] => by rw [posKids]; exact List.pairwise_singleton _ _
  | p, i, x :: l => by
    rw [posKids]
    refine List.pairwise_cons.2 ⟨fun q h => ?_, List.pairwise_append.2 ⟨item_srt p i x, kids_srt p (i + 1) l, fun a ha b hb => ?_⟩⟩
    · rcases List.mem_append.1 h with h | h
      · obtain ⟨s, r, rfl⟩ := item_mem p i x q h
        rw [cmpL_app, cmpL, if_neg (by omega), if_neg (by omega)]; simp [cmpL]
      · obtain ⟨j, r, rfl, h2⟩ := kids_mem p (i + 1) l q h
        rw [cmpL_app, cmpL, if_pos (by omega)]; decide
    · obtain ⟨s, r, rfl⟩ := item_mem p i x a ha
      obtain ⟨j, r2, rfl, h2⟩ := kids_mem p (i + 1) l b hb
      rw [cmpL_app, cmpL, if_pos (by omega)]; decide
theorem item_srt : ∀ (p : List Int) (i : Int) (x : S36), Srt (posItem p i x)
  | p, i, ⟨_, _, _, l⟩ => by rw [posItem]; exact slots_srt p i 0 l
theorem slots_srt : ∀ (p : List Int) (i s : Int) (l : List S36), Srt (posSlots p i s l)
  | p, i, s, [] => by rw [posSlots]; exact List.Pairwise.nil
  | p, i, s, y :: l => by
    rw [posSlots]
    refine List.pairwise_append.2 ⟨slot_srt (p ++ [i, s]) y, slots_srt p i (s + 1) l, fun a ha b hb => ?_⟩
    obtain ⟨r, rfl⟩ := slot_mem (p ++ [i, s]) y a ha
    obtain ⟨t, r2, rfl, h2⟩ := slots_mem p i (s + 1) l b hb
    rw [List.append_assoc, cmpL_app]
    simp only [List.cons_append, List.nil_append]
    rw [cmpL, if_neg (by omega), if_neg (by omega), cmpL, if_pos (by omega)]; decide
theorem slot_srt : ∀ (p : List Int) (y : S36), Srt (posSlot p y)
  | p, ⟨_, _, _, l⟩ => by rw [posSlot]; exact kids_srt p 0 l
end
theorem srt_lt {l : List (List Int)} (h : Srt l) {i j : Nat} (hij : i < j) (hj : j < l.length) : cmpL (l[i]'(by omega)) l[j] < 0 := List.pairwise_iff_getElem.1 h i j (by omega) hj hij
theorem rAll_ev : ∀ (n : Nat) (x : S36), cnt x ≤ n → n ≤ 100000 → OkNode x → ∀ p : List Int, p.length + 2 * n ≤ 1000000 → Ev (fun k => vinculumref10_all.f k x.f0 x.f1 x.f2 x.f3 p) (posKids p 0 x.f3) := by
  intro n
  induction n with
  | zero => intro x h; have := cnt_pos x; omega
  | succ n ih =>
    intro x hn hM hx p hp
    obtain ⟨h1, h2, h3⟩ := ok_open hx
    unfold M at h2
    rw [cnt_eq] at hn
    have loop : ∀ (m i : Nat) (out : List (List Int)), x.f3.length - i = m → i ≤ x.f3.length → cntL (x.f3.drop i) ≤ n → out.length + 3 * cntL (x.f3.drop i) + 1 ≤ 1000000 → Ev (fun k => vinculumref10_all.l0 k p out i x.f0 x.f1 x.f2 x.f3) (out ++ posKids p i (x.f3.drop i)) := by
      intro m
      induction m with
      | zero =>
        intro i out hi hi2 _ ho
        refine Ev.step (fun k => by rw [vinculumref10_all.l0]) ?_
        refine ev_if (fun _ => ?_) fun h => by omega
        refine ev_bind (Ev.now _) ?_
        refine ev_if (fun _ => ?_) fun h => absurd (show ([] : List Int).length + p.length < 17592186044416 by simp; omega) h
        refine ev_bind (Ev.now _) ?_
        refine ev_if (fun _ => ?_) fun h => absurd (show (([] : List Int) ++ p).length < 17592186044416 by simp; omega) h
        refine ev_if (fun _ => ?_) fun h => by omega
        refine ev_bind (Ev.now _) ?_
        refine ev_if (fun _ => ev_now ?_) fun h => by omega
        rw [List.drop_eq_nil_of_le (show x.f3.length ≤ i by omega), posKids]
        simp
      | succ m ihm =>
        intro i out hi hi2 hc ho
        have hil : i < x.f3.length := by omega
        have hd := List.drop_eq_getElem_cons hil
        rw [cntL_drop hil] at hc ho
        have hix := cnt_eq x.f3[i]
        have hok := ok_open (h3 _ (List.getElem_mem hil))
        have hsl := hok.2.1
        unfold M at hsl
        have slots : ∀ (u s : Nat) (out : List (List Int)), x.f3[i].f3.length - s = u → s ≤ x.f3[i].f3.length → cntL (x.f3[i].f3.drop s) ≤ n → out.length + 3 * cntL (x.f3[i].f3.drop s) + 3 * cntL (x.f3.drop (i + 1)) + 1 ≤ 1000000 →
            Ev (fun k => vinculumref10_all.l1 k p out i s x.f0 x.f1 x.f2 x.f3) (out ++ posSlots p i s (x.f3[i].f3.drop s) ++ posKids p (i + 1 : Nat) (x.f3.drop (i + 1))) := by
          intro u
          induction u with
          | zero =>
            intro s out hs hs2 _ ho2
            refine Ev.step (fun k => by rw [vinculumref10_all.l1]) ?_
            refine ev_if (fun _ => ?_) fun h => by omega
            refine ev_if (fun _ => ?_) fun h => by omega
            rw [rdT_at _ _ hil]
            refine ev_if (fun h => by omega) fun _ => ?_
            rw [List.drop_eq_nil_of_le (show x.f3[i].f3.length ≤ s by omega), posSlots, List.append_nil, wr (n := (i : Int) + 1) (by omega)]
            have := ihm (i + 1) out (by omega) (by omega) (by omega) (by omega)
            exact_mod_cast this
          | succ u ihu =>
            intro s out hs hs2 hcs ho2
            have hsl2 : s < x.f3[i].f3.length := by omega
            have hd2 := List.drop_eq_getElem_cons hsl2
            rw [cntL_drop hsl2] at hcs ho2
            have hcy := cnt_eq x.f3[i].f3[s]
            have hpl := posKids_len (p ++ [(i : Int), (s : Int)]) 0 x.f3[i].f3[s].f3
            refine Ev.step (fun k => by rw [vinculumref10_all.l1]) ?_
            refine ev_if (fun _ => ?_) fun h => by omega
            refine ev_if (fun _ => ?_) fun h => by omega
            rw [rdT_at _ _ hil, rdT_at _ _ hsl2]
            refine ev_if (fun _ => ?_) fun h => by omega
            refine ev_if (fun _ => ?_) fun h => by omega
            refine ev_bind (Ev.now _) ?_
            refine ev_if (fun _ => ?_) fun h => absurd (show ([] : List Int).length + p.length < 17592186044416 by simp; omega) h
            refine ev_bind (Ev.now _) ?_
            refine ev_bind (Ev.now _) ?_
            refine ev_if (fun _ => ?_) fun h => absurd (show (([] : List Int) ++ p).length + ([(i : Int), (s : Int)] : List Int).length < 17592186044416 by simp; omega) h
            refine ev_bind (ih x.f3[i].f3[s] (by omega) (by omega) (hok.2.2 _ (List.getElem_mem hsl2)) _ (by simp; omega)) ?_
            rw [List.nil_append]
            refine ev_if (fun _ => ?_) fun h => by omega
            rw [wr (n := (s : Int) + 1) (by omega)]
            have := ihu (s + 1) (out ++ posKids (p ++ [(i : Int), (s : Int)]) 0 x.f3[i].f3[s].f3) (by omega) (by omega) (by omega) (by rw [List.length_append]; omega)
            rw [hd2, posSlots, posSlot_eq]
            rw [← List.append_assoc] 
            exact_mod_cast this
        refine Ev.step (fun k => by rw [vinculumref10_all.l0]) ?_
        refine ev_if (fun _ => ?_) fun h => by omega
        refine ev_bind (Ev.now _) ?_
        refine ev_if (fun _ => ?_) fun h => absurd (show ([] : List Int).length + p.length < 17592186044416 by simp; omega) h
        refine ev_bind (Ev.now _) ?_
        refine ev_if (fun _ => ?_) fun h => absurd (show (([] : List Int) ++ p).length < 17592186044416 by simp; omega) h
        refine ev_if (fun _ => ?_) fun h => by omega
        refine ev_bind (Ev.now _) ?_
        refine ev_if (fun h => by omega) fun _ => ?_
        have := slots x.f3[i].f3.length 0 (out ++ [p ++ [(i : Int)]]) rfl (by omega) (by simp; omega) (by simp; omega)
        rw [hd, posKids, posItem_eq, List.nil_append]
        simp only [List.drop_zero, List.append_assoc, List.cons_append, List.nil_append] at this ⊢
        exact_mod_cast this
    refine Ev.step (fun k => by rw [vinculumref10_all.f]) ?_
    have := loop x.f3.length 0 [] rfl (by omega) (by simp; omega) (by simp; omega)
    simpa using this
end Go.Proofs.YtagkhoeidjlahaaDoor.G.Pure
namespace Go.Proofs.YtagkhoeidjlahaaDoor.G
open Go.RowKit Go.Proofs.YtagkhoeidjlahaaDoorW.PrintWords Go.Proofs.YtagkhoeidjlahaaDoorW.PrintLast Go.Proofs.YtagkhoeidjlahaaDoorW.PrintMore
attribute [local go_sem] max2_int min2_int max_two min_two max_three min_three max_four min_four
set_option linter.unusedVariables false
set_option linter.unusedSimpArgs false
def vinculumlaw10_awake.f (k : Nat)  : Option (Bool) := (position_Next.f k 1 (⟨#[]⟩ : ByteArray) 0 (([(⟨2, (⟨#[120]⟩ : ByteArray), 0, ([] : List (S36))⟩ : S36), (⟨5, (⟨#[]⟩ : ByteArray), 0, (([(⟨1, (⟨#[]⟩ : ByteArray), 0, ([] : List (S36))⟩ : S36), (⟨1, (⟨#[]⟩ : ByteArray), 0, ([] : List (S36))⟩ : S36)] : List (S36)))⟩ : S36)] : List (S36))) (([1, 0, 0] : List Int))).bind fun bt424 => (if bt424.2 = 0 then ((vinculumref10_Same.f k bt424.1 (([1, 1, 0] : List Int))).bind fun t431 => (some t431)) else (some false))
theorem vinculumlaw10_awake.mono : ∀ k, LeO (vinculumlaw10_awake.f k ) (vinculumlaw10_awake.f (k + 1) ) := by
  intro  k
  unfold vinculumlaw10_awake.f
  repeat' first
      | (with_reducible exact position_Next.mono _ _ _ _ _ _)
      | (with_reducible exact vinculumref10_Same.mono _ _ _)
      | (with_reducible exact LeO.refl _)
      | (with_reducible exact LeO.none _)
      | (with_reducible refine LeO.ite ?_ ?_)
      | (with_reducible refine LeO.bind ?_ (fun _ => ?_))
      | exact position_Next.mono _ _ _ _ _ _
      | exact vinculumref10_Same.mono _ _ _
      | exact LeO.none _
      | refine LeO.ite ?_ ?_
      | refine LeO.bind ?_ (fun _ => ?_)
set_option maxHeartbeats 8000000 in
set_option maxRecDepth 100000 in
theorem vinculumlaw10_awake.calls (k : Nat)  (r : Bool) (w : World) (h : vinculumlaw10_awake.f k  = some r) :
    Calls Tryd.prog 25 #[] w fun e w' => e = .returned (.bool r) ∧ Below w.heap.size w w' := by
  have hu36 := Tryd.underlying36
  have HB := Aside0.mk (Below.refl w.heap.size w)
  have H : ((position_Next.f k 1 (⟨#[]⟩ : ByteArray) 0 (([(⟨2, (⟨#[120]⟩ : ByteArray), 0, ([] : List (S36))⟩ : S36), (⟨5, (⟨#[]⟩ : ByteArray), 0, (([(⟨1, (⟨#[]⟩ : ByteArray), 0, ([] : List (S36))⟩ : S36), (⟨1, (⟨#[]⟩ : ByteArray), 0, ([] : List (S36))⟩ : S36)] : List (S36)))⟩ : S36)] : List (S36))) (([1, 0, 0] : List Int))).bind fun bt424 => (if bt424.2 = 0 then ((vinculumref10_Same.f k bt424.1 (([1, 1, 0] : List Int))).bind fun t431 => (some t431)) else (some false))) = some r := h
  clear h
  obtain ⟨y414, hy414⟩ : ∃ y_ : List (S36), y_ = (([(⟨1, (⟨#[]⟩ : ByteArray), 0, ([] : List (S36))⟩ : S36), (⟨1, (⟨#[]⟩ : ByteArray), 0, ([] : List (S36))⟩ : S36)] : List (S36))) := ⟨_, rfl⟩
  replace H : ((position_Next.f k 1 (⟨#[]⟩ : ByteArray) 0 (([(⟨2, (⟨#[120]⟩ : ByteArray), 0, ([] : List (S36))⟩ : S36), (⟨5, (⟨#[]⟩ : ByteArray), 0, y414⟩ : S36)] : List (S36))) (([1, 0, 0] : List Int))).bind fun bt424 => (if bt424.2 = 0 then ((vinculumref10_Same.f k bt424.1 (([1, 1, 0] : List Int))).bind fun t431 => (some t431)) else (some false))) = some r := by first | (rw [hy414]; with_reducible exact H) | (have H2_ := (Option.bind_some _ _).symm.trans H; rw [hy414]; with_reducible exact H2_) | (have H2_ := (Option.bind_some _ _).symm.trans H; with_reducible exact H2_) | with_reducible exact H | (rw [hy414]; exact H) | exact H
  have Ny414 := Aside0.mk hy414
  clear hy414
  obtain ⟨y417, hy417⟩ : ∃ y_ : List (S36), y_ = (([(⟨2, (⟨#[120]⟩ : ByteArray), 0, ([] : List (S36))⟩ : S36), (⟨5, (⟨#[]⟩ : ByteArray), 0, y414⟩ : S36)] : List (S36))) := ⟨_, rfl⟩
  replace H : ((position_Next.f k 1 (⟨#[]⟩ : ByteArray) 0 y417 (([1, 0, 0] : List Int))).bind fun bt424 => (if bt424.2 = 0 then ((vinculumref10_Same.f k bt424.1 (([1, 1, 0] : List Int))).bind fun t431 => (some t431)) else (some false))) = some r := by first | (rw [hy417]; with_reducible exact H) | (have H2_ := (Option.bind_some _ _).symm.trans H; rw [hy417]; with_reducible exact H2_) | (have H2_ := (Option.bind_some _ _).symm.trans H; with_reducible exact H2_) | with_reducible exact H | (rw [hy417]; exact H) | exact H
  have Ny417 := Aside0.mk hy417
  clear hy417
  obtain ⟨y421, hy421⟩ : ∃ y_ : List Int, y_ = (([1, 0, 0] : List Int)) := ⟨_, rfl⟩
  replace H : ((position_Next.f k 1 (⟨#[]⟩ : ByteArray) 0 y417 y421).bind fun bt424 => (if bt424.2 = 0 then ((vinculumref10_Same.f k bt424.1 (([1, 1, 0] : List Int))).bind fun t431 => (some t431)) else (some false))) = some r := by first | (rw [hy421]; with_reducible exact H) | (have H2_ := (Option.bind_some _ _).symm.trans H; rw [hy421]; with_reducible exact H2_) | (have H2_ := (Option.bind_some _ _).symm.trans H; with_reducible exact H2_) | with_reducible exact H | (rw [hy421]; exact H) | exact H
  have Ny421 := Aside0.mk hy421
  clear hy421
  replace H := Option.bind_eq_some_iff.mp H
  obtain ⟨⟨t424, t427⟩, A10, H⟩ := H
  replace H : (if t427 = 0 then ((vinculumref10_Same.f k t424 (([1, 1, 0] : List Int))).bind fun t431 => (some t431)) else (some false)) = some r := H
  have A1 := Aside0.mk A10
  clear A10
  by_cases c2 : t427 = 0
  · rw [if_pos c2] at H
    have c2b0 : (t427 == 0) = true := beq_iff_eq.mpr c2
    have c2b1 : (t427 != 0) = false := bne_eq_false_iff_eq.mpr c2
    clear c2
    obtain ⟨y428, hy428⟩ : ∃ y_ : List Int, y_ = (([1, 1, 0] : List Int)) := ⟨_, rfl⟩
    replace H : ((vinculumref10_Same.f k t424 y428).bind fun t431 => (some t431)) = some r := by first | (rw [hy428]; with_reducible exact H) | (have H2_ := (Option.bind_some _ _).symm.trans H; rw [hy428]; with_reducible exact H2_) | (have H2_ := (Option.bind_some _ _).symm.trans H; with_reducible exact H2_) | with_reducible exact H | (rw [hy428]; exact H) | exact H
    have Ny428 := Aside0.mk hy428
    clear hy428
    replace H := Option.bind_eq_some_iff.mp H
    obtain ⟨t431, A30, H⟩ := H
    replace H : (some t431) = some r := H
    have A3 := Aside0.mk A30
    clear A30
    obtain rfl := Option.some.inj H
    go_enter Tryd.func25, Tryd.ntmps25
    go_wp2_with (first | ((with_reducible refine gate_dst (N := 7) rfl ?_); (try (refine gate_guard (by rfl) ?_; dsimp only)); refine Kd.N_lit k36 _ 36 ?hg (N' := 7) ?hd (xs := ([(⟨1, (⟨#[]⟩ : ByteArray), 0, ([] : List (S36))⟩ : S36), (⟨1, (⟨#[]⟩ : ByteArray), 0, ([] : List (S36))⟩ : S36)] : List (S36))) (inner := [.int .i64 1, .string (⟨#[]⟩ : ByteArray), .int .i64 0, .slice none 0 0, .int .i64 1, .string (⟨#[]⟩ : ByteArray), .int .i64 0, .slice none 0 0]) (ok := (fun _ => True)) (okp := (fun _ => True)) ?hr ?hp (fun _ hk => hk) ((show ∀ k_, w.heap.size ≤ k_ → (fun _ => True) k_ from fun k_ hk => trivial) _ (Nat.le_refl _)) (Below.refl _ _) (Nat.le_refl _) (by simp) ?_; (case hd => rfl); (case hg => rfl); (case hr => first | (go_simp; done) | (go_simp; rfl)); (case hp => exact (Reps.c4 (show Kd.FK k36 _ _ (⟨1, (⟨#[]⟩ : ByteArray), 0, ([] : List (S36))⟩ : S36) [.int .i64 1, .string (⟨#[]⟩ : ByteArray), .int .i64 0, .slice none 0 0] from (k36_mkF _ _ (⟨1, (⟨#[]⟩ : ByteArray), 0, ([] : List (S36))⟩ : S36) (Nat.le_refl _) (Kd.F_nil _ _ _))) (Reps.c4 (show Kd.FK k36 _ _ (⟨1, (⟨#[]⟩ : ByteArray), 0, ([] : List (S36))⟩ : S36) [.int .i64 1, .string (⟨#[]⟩ : ByteArray), .int .i64 0, .slice none 0 0] from (k36_mkF _ _ (⟨1, (⟨#[]⟩ : ByteArray), 0, ([] : List (S36))⟩ : S36) (Nat.le_refl _) (Kd.F_nil _ _ _))) (Reps.none _ _)))); intro v415 w4 ho5 hb hg_ hnew_; clear hg_ hnew_; (first | rw [← Ny414.out] at ho5 | (simp only [Int.reduceToNat] at ho5; rw [← Ny414.out] at ho5)); have n0_ := Aside0.mk (Kd.N_lower ho5 (below_size (by repeat (first | (with_reducible first | exact HB.out | apply below_alloc | apply pw_below_drewN | apply below_drew1) | exact HB.out)))); have n1_ := Aside0.mk (below_step (by repeat (first | (with_reducible first | exact HB.out | apply below_alloc | apply pw_below_drewN | apply below_drew1) | exact HB.out)) hb); clear HB; have HO416 := n0_; have HB := n1_; clear n0_ n1_; clear hb ho5; obtain ⟨Ao6, co6, eo6⟩ := Kd.N_slice HO416.out; subst eo6) | ((with_reducible refine gate_dst (N := 9) rfl ?_); (try (refine gate_guard (by rfl) ?_; dsimp only)); refine Kd.N_lit k36 _ 36 ?hg (N' := 9) ?hd (xs := ([(⟨2, (⟨#[120]⟩ : ByteArray), 0, ([] : List (S36))⟩ : S36), (⟨5, (⟨#[]⟩ : ByteArray), 0, y414⟩ : S36)] : List (S36))) (inner := [.int .i64 2, .string (⟨#[120]⟩ : ByteArray), .int .i64 0, .slice none 0 0, .int .i64 5, .string (⟨#[]⟩ : ByteArray), .int .i64 0, .slice Ao6 y414.length co6]) (ok := (fun _ => True)) (okp := (fun _ => True)) ?hr ?hp (fun _ hk => hk) ((show ∀ k_, w4.heap.size ≤ k_ → (fun _ => True) k_ from fun k_ hk => trivial) _ (Nat.le_refl _)) (Below.refl _ _) (Nat.le_refl _) (by simp) ?_; (case hd => rfl); (case hg => rfl); (case hr => first | (go_simp; done) | (go_simp; rfl)); (case hp => exact (Reps.c4 (show Kd.FK k36 _ _ (⟨2, (⟨#[120]⟩ : ByteArray), 0, ([] : List (S36))⟩ : S36) [.int .i64 2, .string (⟨#[120]⟩ : ByteArray), .int .i64 0, .slice none 0 0] from (k36_mkF _ _ (⟨2, (⟨#[120]⟩ : ByteArray), 0, ([] : List (S36))⟩ : S36) (Nat.le_refl _) (Kd.F_nil _ _ _))) (Reps.c4 (show Kd.FK k36 _ _ (⟨5, (⟨#[]⟩ : ByteArray), 0, y414⟩ : S36) [.int .i64 5, .string (⟨#[]⟩ : ByteArray), .int .i64 0, .slice Ao6 y414.length co6] from (k36_mkF _ _ (⟨5, (⟨#[]⟩ : ByteArray), 0, y414⟩ : S36) (Kd.N_reads' (Kd.N_mono (ok' := (fun _ => True)) (HO416.out) (fun k_ hk => trivial))).2.1 (Kd.N_F (Kd.N_mono (ok' := (fun _ => True)) (HO416.out) (fun k_ hk => trivial))))) (Reps.none _ _)))); intro v418 w7 ho8 hb hg_ hnew_; clear hg_ hnew_; (first | rw [← Ny417.out] at ho8 | (simp only [Int.reduceToNat] at ho8; rw [← Ny417.out] at ho8)); have n0_ := Aside0.mk (Kd.N_lower ho8 (below_size (by repeat (first | (with_reducible first | exact HB.out | apply below_alloc | apply pw_below_drewN | apply below_drew1) | exact HB.out)))); have n1_ := Aside0.mk (below_step (by repeat (first | (with_reducible first | exact HB.out | apply below_alloc | apply pw_below_drewN | apply below_drew1) | exact HB.out)) hb); clear HB; clear HO416; have HO419 := n0_; have HB := n1_; clear n0_ n1_; clear hb ho8; obtain ⟨Ao9, co9, eo9⟩ := Kd.N_slice HO419.out; subst eo9) | ((with_reducible refine gate_dst (N := 1) rfl ?_); (try (refine gate_guard (by rfl) ?_; dsimp only)); refine box_event ?hg (N := 1) ?hd (cs := #[.int .i64 0, .string (⟨#[]⟩ : ByteArray), .int .i64 0, .slice none 0 0]) (t := 36) ?hr ?_; (case hd => rfl); (case hg => rfl); (case hr => first | (go_simp; done) | (go_simp; rfl)); intro gb420 hg w10 hbox hb; have n0_ := Aside0.mk (Kd.N_below (Kd.N_elderB (by (with_reducible repeat (first | apply Kd.N_alloc | apply Kd.N_drewN | apply Kd.N_drew)); exact HO419.out) gb420 (Nat.le_of_eq hg.symm)) hb); have n1_ := Aside0.mk (below_step (by repeat (first | (with_reducible first | exact HB.out | apply below_alloc | apply pw_below_drewN | apply below_drew1) | exact HB.out)) hb); have n2_ := Aside0.mk (hbox); have n3_ := Aside0.mk ((by rw [hg]; exact (below_size (by repeat (first | (with_reducible first | exact HB.out | apply below_alloc | apply pw_below_drewN | apply below_drew1) | exact HB.out))) : w.heap.size ≤ gb420)); have n4_ := Aside0.mk ((by rw [hg]; exact (below_size (by repeat (first | (with_reducible first | exact HB.out | apply below_alloc | apply pw_below_drewN | apply below_drew1) | exact HB.out))) : w.heap.size ≤ gb420)); clear HO419; clear HB; have HO419 := n0_; have HB := n1_; have BK420 := n2_; have GW420 := n3_; have GE420 := n4_; clear n0_ n1_ n2_ n3_ n4_; clear hb hbox hg; have hcz11_0 : w10.cell? ⟨gb420, 0, none⟩ = some (.int .i64 0) := (blk_cell BK420.out 0).trans rfl; have hcz11_1 : w10.cell? ⟨gb420, 1, none⟩ = some (.string (⟨#[]⟩ : ByteArray)) := (blk_cell BK420.out 1).trans rfl; have hcz11_2 : w10.cell? ⟨gb420, 2, none⟩ = some (.int .i64 0) := (blk_cell BK420.out 2).trans rfl; have hcz11_3 : w10.cell? ⟨gb420, 3, none⟩ = some (.slice none 0 0) := (blk_cell BK420.out 3).trans rfl; have hfz11_0 := blk_frozen BK420.out 0; have hfz11_1 := blk_frozen BK420.out 1; have hfz11_2 := blk_frozen BK420.out 2; have hfz11_3 := blk_frozen BK420.out 3) | ((with_reducible refine gate_dst (N := 13) rfl ?_); (try (refine gate_guard (by rfl) ?_; dsimp only)); refine Kd.R_lit (Kd.int .i64) _ 3 ?hg (N := 13) ?hd (xs := ([1, 0, 0] : List Int)) (inner := [.int .i64 1, .int .i64 0, .int .i64 0]) (ok := fun _ => True) (okp := fun _ => True) ?hr ?hp (fun _ hk => hk) trivial (Below.refl _ _) (Nat.le_refl _) (by simp) ?_; (case hd => rfl); (case hg => rfl); (case hr => first | (go_simp; done) | (go_simp; rfl)); (case hp => exact (Reps.one (show Kd.M (Kd.int .i64) _ _ _ 1 [.int .i64 1] from rfl) (Reps.one (show Kd.M (Kd.int .i64) _ _ _ 0 [.int .i64 0] from rfl) (Reps.one (show Kd.M (Kd.int .i64) _ _ _ 0 [.int .i64 0] from rfl) (Reps.none _ _))))); intro v422 w12 ho13 hb hg_ hnew_; clear hg_ hnew_; (first | rw [← Ny421.out] at ho13 | (simp only [Int.reduceToNat] at ho13; rw [← Ny421.out] at ho13)); have n0_ := Aside0.mk (Kd.N_elder' (by (with_reducible repeat (first | apply Kd.N_alloc | apply Kd.N_drewN | apply Kd.N_drew)); exact (Kd.N_mono (Kd.N_far (p := ⟨gb420, 3, none⟩) (Kd.N_far (p := ⟨gb420, 2, none⟩) (Kd.N_far (p := ⟨gb420, 1, none⟩) (Kd.N_far (p := ⟨gb420, 0, none⟩) (Kd.N_mono HO419.out (fun k_ hk => (⟨hk, hk.2⟩ : _ ∧ k_ ≠ gb420))) (fun _ hk => hk.2) (.int .i64 1)) (fun _ hk => hk.2) (.string (⟨#[]⟩ : ByteArray))) (fun _ hk => hk.2) (.int .i64 0)) (fun _ hk => hk.2) (.slice Ao9 y417.length co9)) (fun _ h_ => h_.1))) (Kd.R_base ho13) hb); have n1_ := Aside0.mk (Kd.R_lower ho13 (below_size (by repeat (first | (with_reducible first | exact HB.out | apply below_alloc | apply pw_below_drewN | apply below_drew1 | refine below_set ?_ GE420.out) | exact HB.out)))); have n2_ := Aside0.mk (blk_below (g := gb420) (o := .cells #[.int .i64 1, .string (⟨#[]⟩ : ByteArray), .int .i64 0, .slice Ao9 y417.length co9] 36 (0, 0)) (by (with_reducible repeat (first | refine blk_drewN ?_ _ | refine blk_drew ?_ | refine blk_alloc ?_ _)); refine blk_put (cs := #[.int .i64 1, .string (⟨#[]⟩ : ByteArray), .int .i64 0, .slice none 0 0]) ?_ 3 _ rfl; (with_reducible repeat (first | refine blk_drewN ?_ _ | refine blk_drew ?_ | refine blk_alloc ?_ _)); refine blk_put (cs := #[.int .i64 1, .string (⟨#[]⟩ : ByteArray), .int .i64 0, .slice none 0 0]) ?_ 2 _ rfl; (with_reducible repeat (first | refine blk_drewN ?_ _ | refine blk_drew ?_ | refine blk_alloc ?_ _)); refine blk_put (cs := #[.int .i64 1, .string (⟨#[]⟩ : ByteArray), .int .i64 0, .slice none 0 0]) ?_ 1 _ rfl; (with_reducible repeat (first | refine blk_drewN ?_ _ | refine blk_drew ?_ | refine blk_alloc ?_ _)); refine blk_put (cs := #[.int .i64 0, .string (⟨#[]⟩ : ByteArray), .int .i64 0, .slice none 0 0]) ?_ 0 _ rfl; (with_reducible repeat (first | refine blk_drewN ?_ _ | refine blk_drew ?_ | refine blk_alloc ?_ _)); exact BK420.out) hb); have n3_ := Aside0.mk (below_step (by repeat (first | (with_reducible first | exact HB.out | apply below_alloc | apply pw_below_drewN | apply below_drew1 | refine below_set ?_ GE420.out) | exact HB.out)) hb); clear HO419; clear BK420; clear HB; have HO419 := n0_; have HO423 := n1_; have BK420 := n2_; have HB := n3_; clear n0_ n1_ n2_ n3_; clear hb ho13; obtain ⟨Ao14, co14, eo14⟩ := Kd.R_slice HO423.out; subst eo14) | ((with_reducible refine gate_callee (f := 34) rfl ?_); refine goesL_ (some 14) rfl rfl Tryd.func34 (by kernel_rfl) rfl #[.agg #[.int .i64 1, .string (⟨#[]⟩ : ByteArray), .int .i64 0, .slice Ao9 y417.length co9], .slice Ao14 y421.length co14] rfl (by (try simp only [List.map_toArray, List.map_cons, List.map_nil]); first | done | rfl | (simp only [List.length_drop, List.length_take]; rfl)) ?_; (with_reducible refine (position_Next.calls k 1 (⟨#[]⟩ : ByteArray) 0 _ _ y417 _ _ y421 t424 t427 _ ?side1 ?side2 ?side3 ?side4 A1.out).mono ?_); (case side1 => repeat (first | exact (Kd.N_reads' HO419.out).2.2 | (with_reducible refine Kd.C_alloc ?_ _) | (with_reducible refine Kd.C_drewN ?_ _) | (with_reducible refine Kd.C_drew ?_))); (case side2 => exact (Kd.N_reads' HO419.out).2.1); (case side3 => repeat (first | exact (Kd.R_reads' HO423.out).2.2 | (with_reducible refine Kd.C_alloc ?_ _) | (with_reducible refine Kd.C_drewN ?_ _) | (with_reducible refine Kd.C_drew ?_))); (case side4 => exact (Kd.R_reads' HO423.out).2.1); rintro e w15 ⟨v425, rfl, ho0, hb⟩; refine ⟨_, rfl, ?_⟩; have n0_ := Aside0.mk (Kd.N_below (by (with_reducible repeat (first | apply Kd.N_alloc | apply Kd.N_drewN | apply Kd.N_drew)); exact HO419.out) hb); have n1_ := Aside0.mk (Kd.R_below (by (with_reducible repeat (first | apply Kd.R_alloc | apply Kd.R_drewN | apply Kd.R_drew)); exact HO423.out) hb); have n2_ := Aside0.mk (Kd.V_lower (Kd.V_mono (ok' := fun k_ => some k_ ≠ (.slice Ao9 y417.length co9 : Value).ownBlock ∧ some k_ ≠ (.slice Ao14 y421.length co14 : Value).ownBlock ∧ k_ ≠ gb420) ho0 (fun k_ hk_ => ⟨(Kd.fresh' (Kd.N_lt (by (with_reducible repeat (first | apply Kd.N_alloc | apply Kd.N_drewN | apply Kd.N_drew)); exact HO419.out)) k_ hk_), (Kd.fresh' (Kd.R_lt (by (with_reducible repeat (first | apply Kd.R_alloc | apply Kd.R_drewN | apply Kd.R_drew)); exact HO423.out)) k_ hk_), (Kd.freshB (g := gb420) (o := .cells #[.int .i64 1, .string (⟨#[]⟩ : ByteArray), .int .i64 0, .slice Ao9 y417.length co9] 36 (0, 0)) (by (with_reducible repeat (first | refine blk_drewN ?_ _ | refine blk_drew ?_ | refine blk_alloc ?_ _)); exact BK420.out) k_ hk_)⟩)) (below_size (by repeat (first | (with_reducible first | exact HB.out | apply below_alloc | apply pw_below_drewN | apply below_drew1 | refine below_set ?_ GE420.out) | exact HB.out)))); have n3_ := Aside0.mk (blk_below (g := gb420) (o := .cells #[.int .i64 1, .string (⟨#[]⟩ : ByteArray), .int .i64 0, .slice Ao9 y417.length co9] 36 (0, 0)) (by (with_reducible repeat (first | refine blk_drewN ?_ _ | refine blk_drew ?_ | refine blk_alloc ?_ _)); exact BK420.out) hb); have n4_ := Aside0.mk (below_step (by repeat (first | (with_reducible first | exact HB.out | apply below_alloc | apply pw_below_drewN | apply below_drew1 | refine below_set ?_ GE420.out) | exact HB.out)) hb); clear HO419; clear HO423; clear BK420; clear HB; have HO419 := n0_; have HO423 := n1_; have HO426 := n2_; have BK420 := n3_; have HB := n4_; clear n0_ n1_ n2_ n3_ n4_; (try clear hb); (try clear hb2); (try clear hk); (try clear hi); (try clear ho0)) | ((with_reducible refine gate_dst (N := 21) rfl ?_); (try (refine gate_guard (by rfl) ?_; dsimp only)); refine Kd.R_lit (Kd.int .i64) _ 3 ?hg (N := 21) ?hd (xs := ([1, 1, 0] : List Int)) (inner := [.int .i64 1, .int .i64 1, .int .i64 0]) (ok := fun _ => True) (okp := fun _ => True) ?hr ?hp (fun _ hk => hk) trivial (Below.refl _ _) (Nat.le_refl _) (by simp) ?_; (case hd => rfl); (case hg => rfl); (case hr => first | (go_simp; done) | (go_simp; rfl)); (case hp => exact (Reps.one (show Kd.M (Kd.int .i64) _ _ _ 1 [.int .i64 1] from rfl) (Reps.one (show Kd.M (Kd.int .i64) _ _ _ 1 [.int .i64 1] from rfl) (Reps.one (show Kd.M (Kd.int .i64) _ _ _ 0 [.int .i64 0] from rfl) (Reps.none _ _))))); intro v429 w16 ho17 hb hg_ hnew_; clear hg_ hnew_; (first | rw [← Ny428.out] at ho17 | (simp only [Int.reduceToNat] at ho17; rw [← Ny428.out] at ho17)); have n0_ := Aside0.mk (Kd.N_elder' (by (with_reducible repeat (first | apply Kd.N_alloc | apply Kd.N_drewN | apply Kd.N_drew)); exact HO419.out) (Kd.R_base ho17) hb); have n1_ := Aside0.mk (Kd.R_elder' (by (with_reducible repeat (first | apply Kd.R_alloc | apply Kd.R_drewN | apply Kd.R_drew)); exact HO423.out) (Kd.R_base ho17) hb); have n2_ := Aside0.mk (Kd.V_elder' (by (with_reducible repeat (first | apply Kd.V_alloc | apply Kd.V_drewN | apply Kd.V_drew)); exact HO426.out) (Kd.R_base ho17) hb); have n3_ := Aside0.mk (Kd.R_lower (Kd.R_new' ho17 (Kd.R_lt (by (with_reducible repeat (first | apply Kd.R_alloc | apply Kd.R_drewN | apply Kd.R_drew)); exact HO423.out))) (below_size (by repeat (first | (with_reducible first | exact HB.out | apply below_alloc | apply pw_below_drewN | apply below_drew1 | refine below_set ?_ GE420.out) | exact HB.out)))); have n4_ := Aside0.mk (blk_below (g := gb420) (o := .cells #[.int .i64 1, .string (⟨#[]⟩ : ByteArray), .int .i64 0, .slice Ao9 y417.length co9] 36 (0, 0)) (by (with_reducible repeat (first | refine blk_drewN ?_ _ | refine blk_drew ?_ | refine blk_alloc ?_ _)); exact BK420.out) hb); have n5_ := Aside0.mk (below_step (by repeat (first | (with_reducible first | exact HB.out | apply below_alloc | apply pw_below_drewN | apply below_drew1 | refine below_set ?_ GE420.out) | exact HB.out)) hb); clear HO419; clear HO423; clear HO426; clear BK420; clear HB; have HO419 := n0_; have HO423 := n1_; have HO426 := n2_; have HO430 := n3_; have BK420 := n4_; have HB := n5_; clear n0_ n1_ n2_ n3_ n4_ n5_; clear hb ho17; obtain ⟨Ao18, co18, eo18⟩ := Kd.V_slice HO426.out; subst eo18; obtain ⟨Ao19, co19, eo19⟩ := Kd.R_slice HO430.out; subst eo19) | (go_at_call 31; (with_reducible refine (vinculumref10_Same.calls k _ _ t424 _ _ y428 t431 _ ?side1 ?side2 ?side3 ?side4 A3.out).mono ?_); (case side1 => repeat (first | exact (Kd.V_reads' HO426.out).2.2 | (with_reducible refine Kd.C_alloc ?_ _) | (with_reducible refine Kd.C_drewN ?_ _) | (with_reducible refine Kd.C_drew ?_))); (case side2 => exact (Kd.V_reads' HO426.out).2.1); (case side3 => repeat (first | exact (Kd.R_reads' HO430.out).2.2 | (with_reducible refine Kd.C_alloc ?_ _) | (with_reducible refine Kd.C_drewN ?_ _) | (with_reducible refine Kd.C_drew ?_))); (case side4 => exact (Kd.R_reads' HO430.out).2.1); rintro e w' ⟨rfl, ⟨nd, rfl⟩⟩))
    go_ret
    exact ⟨by first | rfl | (simp [errW_none, errW_some] <;> rfl) | (simp [*, errW_none, errW_some] <;> rfl), by repeat (first | (with_reducible first | exact HB.out | apply below_alloc | apply pw_below_drewN | apply below_drew1 | refine below_set ?_ GE420.out) | exact HB.out)⟩
  · rw [if_neg c2] at H
    have c2b0 : (t427 == 0) = false := beq_eq_false_iff_ne.mpr c2
    have c2b1 : (t427 != 0) = true := bne_iff_ne.mpr c2
    obtain rfl := Option.some.inj H
    go_enter Tryd.func25, Tryd.ntmps25
    go_wp2_with (first | ((with_reducible refine gate_dst (N := 7) rfl ?_); (try (refine gate_guard (by rfl) ?_; dsimp only)); refine Kd.N_lit k36 _ 36 ?hg (N' := 7) ?hd (xs := ([(⟨1, (⟨#[]⟩ : ByteArray), 0, ([] : List (S36))⟩ : S36), (⟨1, (⟨#[]⟩ : ByteArray), 0, ([] : List (S36))⟩ : S36)] : List (S36))) (inner := [.int .i64 1, .string (⟨#[]⟩ : ByteArray), .int .i64 0, .slice none 0 0, .int .i64 1, .string (⟨#[]⟩ : ByteArray), .int .i64 0, .slice none 0 0]) (ok := (fun _ => True)) (okp := (fun _ => True)) ?hr ?hp (fun _ hk => hk) ((show ∀ k_, w.heap.size ≤ k_ → (fun _ => True) k_ from fun k_ hk => trivial) _ (Nat.le_refl _)) (Below.refl _ _) (Nat.le_refl _) (by simp) ?_; (case hd => rfl); (case hg => rfl); (case hr => first | (go_simp; done) | (go_simp; rfl)); (case hp => exact (Reps.c4 (show Kd.FK k36 _ _ (⟨1, (⟨#[]⟩ : ByteArray), 0, ([] : List (S36))⟩ : S36) [.int .i64 1, .string (⟨#[]⟩ : ByteArray), .int .i64 0, .slice none 0 0] from (k36_mkF _ _ (⟨1, (⟨#[]⟩ : ByteArray), 0, ([] : List (S36))⟩ : S36) (Nat.le_refl _) (Kd.F_nil _ _ _))) (Reps.c4 (show Kd.FK k36 _ _ (⟨1, (⟨#[]⟩ : ByteArray), 0, ([] : List (S36))⟩ : S36) [.int .i64 1, .string (⟨#[]⟩ : ByteArray), .int .i64 0, .slice none 0 0] from (k36_mkF _ _ (⟨1, (⟨#[]⟩ : ByteArray), 0, ([] : List (S36))⟩ : S36) (Nat.le_refl _) (Kd.F_nil _ _ _))) (Reps.none _ _)))); intro v415 w20 ho21 hb hg_ hnew_; clear hg_ hnew_; (first | rw [← Ny414.out] at ho21 | (simp only [Int.reduceToNat] at ho21; rw [← Ny414.out] at ho21)); have n0_ := Aside0.mk (Kd.N_lower ho21 (below_size (by repeat (first | (with_reducible first | exact HB.out | apply below_alloc | apply pw_below_drewN | apply below_drew1) | exact HB.out)))); have n1_ := Aside0.mk (below_step (by repeat (first | (with_reducible first | exact HB.out | apply below_alloc | apply pw_below_drewN | apply below_drew1) | exact HB.out)) hb); clear HB; have HO416 := n0_; have HB := n1_; clear n0_ n1_; clear hb ho21; obtain ⟨Ao22, co22, eo22⟩ := Kd.N_slice HO416.out; subst eo22) | ((with_reducible refine gate_dst (N := 9) rfl ?_); (try (refine gate_guard (by rfl) ?_; dsimp only)); refine Kd.N_lit k36 _ 36 ?hg (N' := 9) ?hd (xs := ([(⟨2, (⟨#[120]⟩ : ByteArray), 0, ([] : List (S36))⟩ : S36), (⟨5, (⟨#[]⟩ : ByteArray), 0, y414⟩ : S36)] : List (S36))) (inner := [.int .i64 2, .string (⟨#[120]⟩ : ByteArray), .int .i64 0, .slice none 0 0, .int .i64 5, .string (⟨#[]⟩ : ByteArray), .int .i64 0, .slice Ao22 y414.length co22]) (ok := (fun _ => True)) (okp := (fun _ => True)) ?hr ?hp (fun _ hk => hk) ((show ∀ k_, w20.heap.size ≤ k_ → (fun _ => True) k_ from fun k_ hk => trivial) _ (Nat.le_refl _)) (Below.refl _ _) (Nat.le_refl _) (by simp) ?_; (case hd => rfl); (case hg => rfl); (case hr => first | (go_simp; done) | (go_simp; rfl)); (case hp => exact (Reps.c4 (show Kd.FK k36 _ _ (⟨2, (⟨#[120]⟩ : ByteArray), 0, ([] : List (S36))⟩ : S36) [.int .i64 2, .string (⟨#[120]⟩ : ByteArray), .int .i64 0, .slice none 0 0] from (k36_mkF _ _ (⟨2, (⟨#[120]⟩ : ByteArray), 0, ([] : List (S36))⟩ : S36) (Nat.le_refl _) (Kd.F_nil _ _ _))) (Reps.c4 (show Kd.FK k36 _ _ (⟨5, (⟨#[]⟩ : ByteArray), 0, y414⟩ : S36) [.int .i64 5, .string (⟨#[]⟩ : ByteArray), .int .i64 0, .slice Ao22 y414.length co22] from (k36_mkF _ _ (⟨5, (⟨#[]⟩ : ByteArray), 0, y414⟩ : S36) (Kd.N_reads' (Kd.N_mono (ok' := (fun _ => True)) (HO416.out) (fun k_ hk => trivial))).2.1 (Kd.N_F (Kd.N_mono (ok' := (fun _ => True)) (HO416.out) (fun k_ hk => trivial))))) (Reps.none _ _)))); intro v418 w23 ho24 hb hg_ hnew_; clear hg_ hnew_; (first | rw [← Ny417.out] at ho24 | (simp only [Int.reduceToNat] at ho24; rw [← Ny417.out] at ho24)); have n0_ := Aside0.mk (Kd.N_lower ho24 (below_size (by repeat (first | (with_reducible first | exact HB.out | apply below_alloc | apply pw_below_drewN | apply below_drew1) | exact HB.out)))); have n1_ := Aside0.mk (below_step (by repeat (first | (with_reducible first | exact HB.out | apply below_alloc | apply pw_below_drewN | apply below_drew1) | exact HB.out)) hb); clear HB; clear HO416; have HO419 := n0_; have HB := n1_; clear n0_ n1_; clear hb ho24; obtain ⟨Ao25, co25, eo25⟩ := Kd.N_slice HO419.out; subst eo25) | ((with_reducible refine gate_dst (N := 1) rfl ?_); (try (refine gate_guard (by rfl) ?_; dsimp only)); refine box_event ?hg (N := 1) ?hd (cs := #[.int .i64 0, .string (⟨#[]⟩ : ByteArray), .int .i64 0, .slice none 0 0]) (t := 36) ?hr ?_; (case hd => rfl); (case hg => rfl); (case hr => first | (go_simp; done) | (go_simp; rfl)); intro gb420 hg w26 hbox hb; have n0_ := Aside0.mk (Kd.N_below (Kd.N_elderB (by (with_reducible repeat (first | apply Kd.N_alloc | apply Kd.N_drewN | apply Kd.N_drew)); exact HO419.out) gb420 (Nat.le_of_eq hg.symm)) hb); have n1_ := Aside0.mk (below_step (by repeat (first | (with_reducible first | exact HB.out | apply below_alloc | apply pw_below_drewN | apply below_drew1) | exact HB.out)) hb); have n2_ := Aside0.mk (hbox); have n3_ := Aside0.mk ((by rw [hg]; exact (below_size (by repeat (first | (with_reducible first | exact HB.out | apply below_alloc | apply pw_below_drewN | apply below_drew1) | exact HB.out))) : w.heap.size ≤ gb420)); have n4_ := Aside0.mk ((by rw [hg]; exact (below_size (by repeat (first | (with_reducible first | exact HB.out | apply below_alloc | apply pw_below_drewN | apply below_drew1) | exact HB.out))) : w.heap.size ≤ gb420)); clear HO419; clear HB; have HO419 := n0_; have HB := n1_; have BK420 := n2_; have GW420 := n3_; have GE420 := n4_; clear n0_ n1_ n2_ n3_ n4_; clear hb hbox hg; have hcz27_0 : w26.cell? ⟨gb420, 0, none⟩ = some (.int .i64 0) := (blk_cell BK420.out 0).trans rfl; have hcz27_1 : w26.cell? ⟨gb420, 1, none⟩ = some (.string (⟨#[]⟩ : ByteArray)) := (blk_cell BK420.out 1).trans rfl; have hcz27_2 : w26.cell? ⟨gb420, 2, none⟩ = some (.int .i64 0) := (blk_cell BK420.out 2).trans rfl; have hcz27_3 : w26.cell? ⟨gb420, 3, none⟩ = some (.slice none 0 0) := (blk_cell BK420.out 3).trans rfl; have hfz27_0 := blk_frozen BK420.out 0; have hfz27_1 := blk_frozen BK420.out 1; have hfz27_2 := blk_frozen BK420.out 2; have hfz27_3 := blk_frozen BK420.out 3) | ((with_reducible refine gate_dst (N := 13) rfl ?_); (try (refine gate_guard (by rfl) ?_; dsimp only)); refine Kd.R_lit (Kd.int .i64) _ 3 ?hg (N := 13) ?hd (xs := ([1, 0, 0] : List Int)) (inner := [.int .i64 1, .int .i64 0, .int .i64 0]) (ok := fun _ => True) (okp := fun _ => True) ?hr ?hp (fun _ hk => hk) trivial (Below.refl _ _) (Nat.le_refl _) (by simp) ?_; (case hd => rfl); (case hg => rfl); (case hr => first | (go_simp; done) | (go_simp; rfl)); (case hp => exact (Reps.one (show Kd.M (Kd.int .i64) _ _ _ 1 [.int .i64 1] from rfl) (Reps.one (show Kd.M (Kd.int .i64) _ _ _ 0 [.int .i64 0] from rfl) (Reps.one (show Kd.M (Kd.int .i64) _ _ _ 0 [.int .i64 0] from rfl) (Reps.none _ _))))); intro v422 w28 ho29 hb hg_ hnew_; clear hg_ hnew_; (first | rw [← Ny421.out] at ho29 | (simp only [Int.reduceToNat] at ho29; rw [← Ny421.out] at ho29)); have n0_ := Aside0.mk (Kd.N_elder' (by (with_reducible repeat (first | apply Kd.N_alloc | apply Kd.N_drewN | apply Kd.N_drew)); exact (Kd.N_mono (Kd.N_far (p := ⟨gb420, 3, none⟩) (Kd.N_far (p := ⟨gb420, 2, none⟩) (Kd.N_far (p := ⟨gb420, 1, none⟩) (Kd.N_far (p := ⟨gb420, 0, none⟩) (Kd.N_mono HO419.out (fun k_ hk => (⟨hk, hk.2⟩ : _ ∧ k_ ≠ gb420))) (fun _ hk => hk.2) (.int .i64 1)) (fun _ hk => hk.2) (.string (⟨#[]⟩ : ByteArray))) (fun _ hk => hk.2) (.int .i64 0)) (fun _ hk => hk.2) (.slice Ao25 y417.length co25)) (fun _ h_ => h_.1))) (Kd.R_base ho29) hb); have n1_ := Aside0.mk (Kd.R_lower ho29 (below_size (by repeat (first | (with_reducible first | exact HB.out | apply below_alloc | apply pw_below_drewN | apply below_drew1 | refine below_set ?_ GE420.out) | exact HB.out)))); have n2_ := Aside0.mk (blk_below (g := gb420) (o := .cells #[.int .i64 1, .string (⟨#[]⟩ : ByteArray), .int .i64 0, .slice Ao25 y417.length co25] 36 (0, 0)) (by (with_reducible repeat (first | refine blk_drewN ?_ _ | refine blk_drew ?_ | refine blk_alloc ?_ _)); refine blk_put (cs := #[.int .i64 1, .string (⟨#[]⟩ : ByteArray), .int .i64 0, .slice none 0 0]) ?_ 3 _ rfl; (with_reducible repeat (first | refine blk_drewN ?_ _ | refine blk_drew ?_ | refine blk_alloc ?_ _)); refine blk_put (cs := #[.int .i64 1, .string (⟨#[]⟩ : ByteArray), .int .i64 0, .slice none 0 0]) ?_ 2 _ rfl; (with_reducible repeat (first | refine blk_drewN ?_ _ | refine blk_drew ?_ | refine blk_alloc ?_ _)); refine blk_put (cs := #[.int .i64 1, .string (⟨#[]⟩ : ByteArray), .int .i64 0, .slice none 0 0]) ?_ 1 _ rfl; (with_reducible repeat (first | refine blk_drewN ?_ _ | refine blk_drew ?_ | refine blk_alloc ?_ _)); refine blk_put (cs := #[.int .i64 0, .string (⟨#[]⟩ : ByteArray), .int .i64 0, .slice none 0 0]) ?_ 0 _ rfl; (with_reducible repeat (first | refine blk_drewN ?_ _ | refine blk_drew ?_ | refine blk_alloc ?_ _)); exact BK420.out) hb); have n3_ := Aside0.mk (below_step (by repeat (first | (with_reducible first | exact HB.out | apply below_alloc | apply pw_below_drewN | apply below_drew1 | refine below_set ?_ GE420.out) | exact HB.out)) hb); clear HO419; clear BK420; clear HB; have HO419 := n0_; have HO423 := n1_; have BK420 := n2_; have HB := n3_; clear n0_ n1_ n2_ n3_; clear hb ho29; obtain ⟨Ao30, co30, eo30⟩ := Kd.R_slice HO423.out; subst eo30) | ((with_reducible refine gate_callee (f := 34) rfl ?_); refine goesL_ (some 14) rfl rfl Tryd.func34 (by kernel_rfl) rfl #[.agg #[.int .i64 1, .string (⟨#[]⟩ : ByteArray), .int .i64 0, .slice Ao25 y417.length co25], .slice Ao30 y421.length co30] rfl (by (try simp only [List.map_toArray, List.map_cons, List.map_nil]); first | done | rfl | (simp only [List.length_drop, List.length_take]; rfl)) ?_; (with_reducible refine (position_Next.calls k 1 (⟨#[]⟩ : ByteArray) 0 _ _ y417 _ _ y421 t424 t427 _ ?side1 ?side2 ?side3 ?side4 A1.out).mono ?_); (case side1 => repeat (first | exact (Kd.N_reads' HO419.out).2.2 | (with_reducible refine Kd.C_alloc ?_ _) | (with_reducible refine Kd.C_drewN ?_ _) | (with_reducible refine Kd.C_drew ?_))); (case side2 => exact (Kd.N_reads' HO419.out).2.1); (case side3 => repeat (first | exact (Kd.R_reads' HO423.out).2.2 | (with_reducible refine Kd.C_alloc ?_ _) | (with_reducible refine Kd.C_drewN ?_ _) | (with_reducible refine Kd.C_drew ?_))); (case side4 => exact (Kd.R_reads' HO423.out).2.1); rintro e w31 ⟨v425, rfl, ho0, hb⟩; refine ⟨_, rfl, ?_⟩; have n0_ := Aside0.mk (Kd.N_below (by (with_reducible repeat (first | apply Kd.N_alloc | apply Kd.N_drewN | apply Kd.N_drew)); exact HO419.out) hb); have n1_ := Aside0.mk (Kd.R_below (by (with_reducible repeat (first | apply Kd.R_alloc | apply Kd.R_drewN | apply Kd.R_drew)); exact HO423.out) hb); have n2_ := Aside0.mk (Kd.V_lower (Kd.V_mono (ok' := fun k_ => some k_ ≠ (.slice Ao25 y417.length co25 : Value).ownBlock ∧ some k_ ≠ (.slice Ao30 y421.length co30 : Value).ownBlock ∧ k_ ≠ gb420) ho0 (fun k_ hk_ => ⟨(Kd.fresh' (Kd.N_lt (by (with_reducible repeat (first | apply Kd.N_alloc | apply Kd.N_drewN | apply Kd.N_drew)); exact HO419.out)) k_ hk_), (Kd.fresh' (Kd.R_lt (by (with_reducible repeat (first | apply Kd.R_alloc | apply Kd.R_drewN | apply Kd.R_drew)); exact HO423.out)) k_ hk_), (Kd.freshB (g := gb420) (o := .cells #[.int .i64 1, .string (⟨#[]⟩ : ByteArray), .int .i64 0, .slice Ao25 y417.length co25] 36 (0, 0)) (by (with_reducible repeat (first | refine blk_drewN ?_ _ | refine blk_drew ?_ | refine blk_alloc ?_ _)); exact BK420.out) k_ hk_)⟩)) (below_size (by repeat (first | (with_reducible first | exact HB.out | apply below_alloc | apply pw_below_drewN | apply below_drew1 | refine below_set ?_ GE420.out) | exact HB.out)))); have n3_ := Aside0.mk (blk_below (g := gb420) (o := .cells #[.int .i64 1, .string (⟨#[]⟩ : ByteArray), .int .i64 0, .slice Ao25 y417.length co25] 36 (0, 0)) (by (with_reducible repeat (first | refine blk_drewN ?_ _ | refine blk_drew ?_ | refine blk_alloc ?_ _)); exact BK420.out) hb); have n4_ := Aside0.mk (below_step (by repeat (first | (with_reducible first | exact HB.out | apply below_alloc | apply pw_below_drewN | apply below_drew1 | refine below_set ?_ GE420.out) | exact HB.out)) hb); clear HO419; clear HO423; clear BK420; clear HB; have HO419 := n0_; have HO423 := n1_; have HO426 := n2_; have BK420 := n3_; have HB := n4_; clear n0_ n1_ n2_ n3_ n4_; (try clear hb); (try clear hb2); (try clear hk); (try clear hi); (try clear ho0)))
    go_ret
    exact ⟨by first | rfl | (simp [errW_none, errW_some] <;> rfl) | (simp [*, errW_none, errW_some] <;> rfl), by repeat (first | (with_reducible first | exact HB.out | apply below_alloc | apply pw_below_drewN | apply below_drew1 | refine below_set ?_ GE420.out) | exact HB.out)⟩
end Go.Proofs.YtagkhoeidjlahaaDoor.G
namespace Go.Proofs.YtagkhoeidjlahaaDoor.G
open Go.RowKit Go.Proofs.YtagkhoeidjlahaaDoorW.PrintWords Go.Proofs.YtagkhoeidjlahaaDoorW.PrintLast Go.Proofs.YtagkhoeidjlahaaDoorW.PrintMore
attribute [local go_sem] max2_int min2_int max_two min_two max_three min_three max_four min_four
set_option linter.unusedVariables false
set_option linter.unusedSimpArgs false
def vinculumlaw10_few.f (k : Nat) (a0_0 : Int) (a0_1 : ByteArray) (a0_2 : Int) (l0_3 : List (S36)) (l1 : List Int) : Option (Bool) := (vinculumref09_Few.f k a0_0 a0_1 a0_2 l0_3 200).bind fun t433 => (if t433 = true then (some (decide ((l1.length : Int) ≤ 60))) else (some false))
theorem vinculumlaw10_few.mono : ∀ a0 a1 a2 a3 a4 k, LeO (vinculumlaw10_few.f k a0 a1 a2 a3 a4) (vinculumlaw10_few.f (k + 1) a0 a1 a2 a3 a4) := by
  intro a0 a1 a2 a3 a4 k
  unfold vinculumlaw10_few.f
  repeat' first
      | (with_reducible exact vinculumref09_Few.mono _ _ _ _ _ _)
      | (with_reducible exact LeO.refl _)
      | (with_reducible exact LeO.none _)
      | (with_reducible refine LeO.ite ?_ ?_)
      | (with_reducible refine LeO.bind ?_ (fun _ => ?_))
      | exact vinculumref09_Few.mono _ _ _ _ _ _
      | exact LeO.none _
      | refine LeO.ite ?_ ?_
      | refine LeO.bind ?_ (fun _ => ?_)
set_option maxHeartbeats 8000000 in
set_option maxRecDepth 100000 in
theorem vinculumlaw10_few.calls (k : Nat) (a0_0 : Int) (a0_1 : ByteArray) (a0_2 : Int) (A0_3 : Option Addr) (c0_3 : Nat) (l0_3 : List (S36)) (A1 : Option Addr) (c1 : Nat) (l1 : List Int) (r : Bool) (w : World) (hr0_3 : Kd.C k36 w A0_3 l0_3.length l0_3) (hc0_3 : l0_3.length ≤ c0_3) (hr1 : Kd.C (Kd.int .i64) w A1 l1.length l1) (hc1 : l1.length ≤ c1) (h : vinculumlaw10_few.f k a0_0 a0_1 a0_2 l0_3 l1 = some r) :
    Calls Tryd.prog 26 #[.agg #[.int .i64 a0_0, .string a0_1, .int .i64 a0_2, .slice A0_3 l0_3.length c0_3], .slice A1 l1.length c1] w fun e w' => e = .returned (.bool r) ∧ Below w.heap.size w w' := by
  have hu36 := Tryd.underlying36
  have HR0_3 := Aside0.mk hr0_3
  have HC0_3 := Aside0.mk hc0_3
  clear hr0_3 hc0_3
  have HR1 := Aside0.mk hr1
  have HC1 := Aside0.mk hc1
  clear hr1 hc1
  have HB := Aside0.mk (Below.refl w.heap.size w)
  have H : ((vinculumref09_Few.f k a0_0 a0_1 a0_2 l0_3 200).bind fun t433 => (if t433 = true then (some (decide ((l1.length : Int) ≤ 60))) else (some false))) = some r := h
  clear h
  replace H := Option.bind_eq_some_iff.mp H
  obtain ⟨t433, A30, H⟩ := H
  replace H : (if t433 = true then (some (decide ((l1.length : Int) ≤ 60))) else (some false)) = some r := H
  have A3 := Aside0.mk A30
  clear A30
  by_cases c4 : t433 = true
  · subst c4
    have H1 : (some (decide ((l1.length : Int) ≤ 60))) = some r := by rw [if_pos rfl] at H; exact H
    clear H
    have H := H1
    clear H1
    obtain rfl := Option.some.inj H
    go_enter Tryd.func26, Tryd.ntmps26
    go_wp2_with (first | ((with_reducible refine gate_dst (N := 2) rfl ?_); (try (refine gate_guard (by rfl) ?_; dsimp only)); refine box_event ?hg (N := 2) ?hd (cs := #[.int .i64 a0_0, .string a0_1, .int .i64 a0_2, .slice A0_3 l0_3.length c0_3]) (t := 36) ?hr ?_; (case hd => rfl); (case hg => rfl); (case hr => first | (go_simp; done) | (go_simp; rfl)); intro gb432 hg w5 hbox hb; have n0_ := Aside0.mk (below_step (by repeat (first | (with_reducible first | exact HB.out | apply below_alloc | apply pw_below_drewN | apply below_drew1) | exact HB.out)) hb); have n1_ := Aside0.mk (hbox); have n2_ := Aside0.mk ((by rw [hg]; exact (below_size (by repeat (first | (with_reducible first | exact HB.out | apply below_alloc | apply pw_below_drewN | apply below_drew1) | exact HB.out))) : w.heap.size ≤ gb432)); have n3_ := Aside0.mk ((by rw [hg]; exact (below_size (by repeat (first | (with_reducible first | exact HB.out | apply below_alloc | apply pw_below_drewN | apply below_drew1) | exact HB.out))) : w.heap.size ≤ gb432)); clear HB; have HB := n0_; have BK432 := n1_; have GW432 := n2_; have GE432 := n3_; clear n0_ n1_ n2_ n3_; clear hb hbox hg; have hcz6_0 : w5.cell? ⟨gb432, 0, none⟩ = some (.int .i64 a0_0) := (blk_cell BK432.out 0).trans rfl; have hcz6_1 : w5.cell? ⟨gb432, 1, none⟩ = some (.string a0_1) := (blk_cell BK432.out 1).trans rfl; have hcz6_2 : w5.cell? ⟨gb432, 2, none⟩ = some (.int .i64 a0_2) := (blk_cell BK432.out 2).trans rfl; have hcz6_3 : w5.cell? ⟨gb432, 3, none⟩ = some (.slice A0_3 l0_3.length c0_3) := (blk_cell BK432.out 3).trans rfl; have hfz6_0 := blk_frozen BK432.out 0; have hfz6_1 := blk_frozen BK432.out 1; have hfz6_2 := blk_frozen BK432.out 2; have hfz6_3 := blk_frozen BK432.out 3) | ((with_reducible refine gate_callee (f := 61) rfl ?_); refine goesL_ (some 6) rfl rfl Tryd.func61 (by kernel_rfl) rfl #[.agg #[.int .i64 a0_0, .string a0_1, .int .i64 a0_2, .slice A0_3 l0_3.length c0_3], .int .i64 200] rfl (by (try simp only [List.map_toArray, List.map_cons, List.map_nil]); first | done | rfl | (simp only [List.length_drop, List.length_take]; rfl)) ?_; (with_reducible refine (vinculumref09_Few.calls k a0_0 a0_1 a0_2 _ _ l0_3 200 true _ ?side1 ?side2 A3.out).mono ?_); (case side1 => repeat (first | exact (Kd.C_below HR0_3.out HB.out) | (with_reducible refine Kd.C_alloc ?_ _) | (with_reducible refine Kd.C_drewN ?_ _) | (with_reducible refine Kd.C_drew ?_))); (case side2 => exact HC0_3.out); rintro e w7 ⟨rfl, hb⟩; refine ⟨_, rfl, ?_⟩; have n0_ := Aside0.mk (blk_below (g := gb432) (o := .cells #[.int .i64 a0_0, .string a0_1, .int .i64 a0_2, .slice A0_3 l0_3.length c0_3] 36 (0, 0)) (by (with_reducible repeat (first | refine blk_drewN ?_ _ | refine blk_drew ?_ | refine blk_alloc ?_ _)); exact BK432.out) hb); have n1_ := Aside0.mk (below_step (by repeat (first | (with_reducible first | exact HB.out | apply below_alloc | apply pw_below_drewN | apply below_drew1 | refine below_set ?_ GE432.out) | exact HB.out)) hb); clear BK432; clear HB; have BK432 := n0_; have HB := n1_; clear n0_ n1_; (try clear hb); (try clear hb2); (try clear hk); (try clear hi)))
    go_ret
    exact ⟨by first | rfl | (simp [errW_none, errW_some] <;> rfl) | (simp [*, errW_none, errW_some] <;> rfl), by repeat (first | (with_reducible first | exact HB.out | apply below_alloc | apply pw_below_drewN | apply below_drew1 | refine below_set ?_ GE432.out) | exact HB.out)⟩
  · replace c4 := Bool.eq_false_iff.mpr c4
    subst c4
    have H1 : (some false) = some r := by rw [if_neg (show ¬ (false = true) by decide)] at H; exact H
    clear H
    have H := H1
    clear H1
    obtain rfl := Option.some.inj H
    go_enter Tryd.func26, Tryd.ntmps26
    go_wp2_with (first | ((with_reducible refine gate_dst (N := 2) rfl ?_); (try (refine gate_guard (by rfl) ?_; dsimp only)); refine box_event ?hg (N := 2) ?hd (cs := #[.int .i64 a0_0, .string a0_1, .int .i64 a0_2, .slice A0_3 l0_3.length c0_3]) (t := 36) ?hr ?_; (case hd => rfl); (case hg => rfl); (case hr => first | (go_simp; done) | (go_simp; rfl)); intro gb432 hg w8 hbox hb; have n0_ := Aside0.mk (below_step (by repeat (first | (with_reducible first | exact HB.out | apply below_alloc | apply pw_below_drewN | apply below_drew1) | exact HB.out)) hb); have n1_ := Aside0.mk (hbox); have n2_ := Aside0.mk ((by rw [hg]; exact (below_size (by repeat (first | (with_reducible first | exact HB.out | apply below_alloc | apply pw_below_drewN | apply below_drew1) | exact HB.out))) : w.heap.size ≤ gb432)); have n3_ := Aside0.mk ((by rw [hg]; exact (below_size (by repeat (first | (with_reducible first | exact HB.out | apply below_alloc | apply pw_below_drewN | apply below_drew1) | exact HB.out))) : w.heap.size ≤ gb432)); clear HB; have HB := n0_; have BK432 := n1_; have GW432 := n2_; have GE432 := n3_; clear n0_ n1_ n2_ n3_; clear hb hbox hg; have hcz9_0 : w8.cell? ⟨gb432, 0, none⟩ = some (.int .i64 a0_0) := (blk_cell BK432.out 0).trans rfl; have hcz9_1 : w8.cell? ⟨gb432, 1, none⟩ = some (.string a0_1) := (blk_cell BK432.out 1).trans rfl; have hcz9_2 : w8.cell? ⟨gb432, 2, none⟩ = some (.int .i64 a0_2) := (blk_cell BK432.out 2).trans rfl; have hcz9_3 : w8.cell? ⟨gb432, 3, none⟩ = some (.slice A0_3 l0_3.length c0_3) := (blk_cell BK432.out 3).trans rfl; have hfz9_0 := blk_frozen BK432.out 0; have hfz9_1 := blk_frozen BK432.out 1; have hfz9_2 := blk_frozen BK432.out 2; have hfz9_3 := blk_frozen BK432.out 3) | ((with_reducible refine gate_callee (f := 61) rfl ?_); refine goesL_ (some 6) rfl rfl Tryd.func61 (by kernel_rfl) rfl #[.agg #[.int .i64 a0_0, .string a0_1, .int .i64 a0_2, .slice A0_3 l0_3.length c0_3], .int .i64 200] rfl (by (try simp only [List.map_toArray, List.map_cons, List.map_nil]); first | done | rfl | (simp only [List.length_drop, List.length_take]; rfl)) ?_; (with_reducible refine (vinculumref09_Few.calls k a0_0 a0_1 a0_2 _ _ l0_3 200 false _ ?side1 ?side2 A3.out).mono ?_); (case side1 => repeat (first | exact (Kd.C_below HR0_3.out HB.out) | (with_reducible refine Kd.C_alloc ?_ _) | (with_reducible refine Kd.C_drewN ?_ _) | (with_reducible refine Kd.C_drew ?_))); (case side2 => exact HC0_3.out); rintro e w10 ⟨rfl, hb⟩; refine ⟨_, rfl, ?_⟩; have n0_ := Aside0.mk (blk_below (g := gb432) (o := .cells #[.int .i64 a0_0, .string a0_1, .int .i64 a0_2, .slice A0_3 l0_3.length c0_3] 36 (0, 0)) (by (with_reducible repeat (first | refine blk_drewN ?_ _ | refine blk_drew ?_ | refine blk_alloc ?_ _)); exact BK432.out) hb); have n1_ := Aside0.mk (below_step (by repeat (first | (with_reducible first | exact HB.out | apply below_alloc | apply pw_below_drewN | apply below_drew1 | refine below_set ?_ GE432.out) | exact HB.out)) hb); clear BK432; clear HB; have BK432 := n0_; have HB := n1_; clear n0_ n1_; (try clear hb); (try clear hb2); (try clear hk); (try clear hi)))
    go_ret
    exact ⟨by first | rfl | (simp [errW_none, errW_some] <;> rfl) | (simp [*, errW_none, errW_some] <;> rfl), by repeat (first | (with_reducible first | exact HB.out | apply below_alloc | apply pw_below_drewN | apply below_drew1 | refine below_set ?_ GE432.out) | exact HB.out)⟩
end Go.Proofs.YtagkhoeidjlahaaDoor.G
namespace Go.Proofs.YtagkhoeidjlahaaDoor.G.Pure
open Go.Proofs.YtagkhoeidjlahaaDoorW.PrintWords Go.RowKit
set_option linter.unusedVariables false
set_option linter.unusedSimpArgs false
def xsOf (x : S36) : List (List Int) := posKids [] 0 x.f3
def allB (x : S36) : List (List Int) × Int := if validB x = true then (xsOf x, 0) else ([], 1)
theorem xs_le (x : S36) : (xsOf x).length ≤ 2 * cnt x := by
  have := posKids_len [] 0 x.f3
  have e := cnt_eq x
  unfold xsOf; omega
theorem pAll_ev (x : S36) (hx : OkNode x) : Ev (fun k => position_All.f k x.f0 x.f1 x.f2 x.f3) (allB x) := by
  unfold position_All.f allB
  refine Ev.bind (f := fun _ v => if v = true then some (posKids [] 0 x.f3, 0) else some ([], 1)) (nValid_ev x hx) ?_
  exact ev_if (fun h => ev_now (by rw [if_pos h]; rfl)) fun h => ev_now (by rw [if_neg h])
theorem rAll2_ev (x : S36) (hx : OkNode x) (hc : cnt x ≤ 100000) : Ev (fun k => vinculumref10_All.f k x.f0 x.f1 x.f2 x.f3) (allB x) := by
  unfold vinculumref10_All.f allB
  refine ev_bind (rValid_ev x hx (by omega)) ?_
  refine ev_if (fun h => ?_) fun h => ev_now ?_
  · rw [if_pos h]
    exact ev_bind (rAll_ev (cnt x) x (Nat.le_refl _) hc hx [] (by simp; omega)) (Ev.now _)
  · rw [if_neg h]
def idxF (pos : List Int) : List (List Int) → Int → Int × Int
  | [], _ => (0, 2)
  | q :: qs, i => if cmpL q pos = 0 then (i, 0) else idxF pos qs (i + 1)
def idxB (x : S36) (pos : List Int) : Int × Int := if validB x = true then idxF pos (xsOf x) 0 else (0, 1)
theorem rdL_at (l : List (List Int)) (i : Nat) (h : i < l.length) : rd_L5 l i = l[i] := by simp [rd_L5, h]
def Short (xs : List (List Int)) : Prop := ∀ q ∈ xs, q.length ≤ M
mutual
theorem kids_short : ∀ (p : List Int) (i : Int) (l : List S36) (q : List Int), q ∈ posKids p i l → q.length ≤ p.length + 1 + 2 * cntL l
  | p, i, [], q, h => by rw [posKids, List.mem_singleton] at h; subst h; simp
  | p, i, x :: l, q, h => by
    rw [posKids, List.mem_cons, List.mem_append] at h
    rw [cntL]
    rcases h with h | h | h
    · subst h; simp
    · have := item_short p i x q h; omega
    · have := kids_short p (i + 1) l q h; omega
theorem item_short : ∀ (p : List Int) (i : Int) (x : S36) (q : List Int), q ∈ posItem p i x → q.length ≤ p.length + 1 + 2 * cnt x
  | p, i, ⟨_, _, _, l⟩, q, h => by
    rw [posItem] at h
    have := slots_short p i 0 l q h
    rw [cnt]; omega
theorem slots_short : ∀ (p : List Int) (i s : Int) (l : List S36) (q : List Int), q ∈ posSlots p i s l → q.length ≤ p.length + 1 + 2 * cntL l
  | p, i, s, [], q, h => by simp [posSlots] at h
  | p, i, s, y :: l, q, h => by
    rw [posSlots, List.mem_append] at h
    rw [cntL]
    rcases h with h | h
    · have := slot_short (p ++ [i, s]) y q h
      simp only [List.length_append, List.length_cons, List.length_nil] at this
      omega
    · have := slots_short p i (s + 1) l q h; omega
theorem slot_short : ∀ (p : List Int) (y : S36) (q : List Int), q ∈ posSlot p y → q.length + 1 ≤ p.length + 2 * cnt y
  | p, ⟨_, _, _, l⟩, q, h => by
    rw [posSlot] at h
    have := kids_short p 0 l q h
    rw [cnt]; omega
end
theorem xs_short (x : S36) (hc : cnt x ≤ 100000) : Short (xsOf x) := fun q h => by
  have := kids_short [] 0 x.f3 q h
  have e := cnt_eq x
  unfold M
  simp at this
  omega
theorem rIdx_l (xs : List (List Int)) (pos : List Int) (hs : Short xs) (hl : xs.length ≤ 1000000) : ∀ (m i : Nat), xs.length - i = m → Ev (fun k => vinculumref10_Index.l0 k pos xs i) (idxF pos (xs.drop i) i) := by
  intro m
  induction m with
  | zero =>
    intro i hi
    refine Ev.step (fun k => by rw [vinculumref10_Index.l0]) ?_
    refine ev_if (fun h => by omega) fun _ => ev_now ?_
    rw [List.drop_eq_nil_of_le (by omega), idxF]
  | succ m ih =>
    intro i hi
    have hil : i < xs.length := by omega
    refine Ev.step (fun k => by rw [vinculumref10_Index.l0]) ?_
    refine ev_if (fun _ => ?_) fun h => by omega
    refine ev_if (fun _ => ?_) fun h => by omega
    rw [List.drop_eq_getElem_cons hil, idxF, rdL_at _ _ hil]
    refine ev_bind (rCmp_ev _ _ (hs _ (List.getElem_mem hil))) ?_
    refine ev_if (fun h => ev_now ?_) fun h => ?_
    · rw [if_pos h]
    · rw [if_neg h, wr (n := (i : Int) + 1) (by omega)]
      have := ih (i + 1) (by omega)
      exact_mod_cast this
theorem rIndex_ev (x : S36) (hx : OkNode x) (hc : cnt x ≤ 100000) (pos : List Int) : Ev (fun k => vinculumref10_Index.f k x.f0 x.f1 x.f2 x.f3 pos) (idxB x pos) := by
  unfold vinculumref10_Index.f idxB
  refine ev_bind (rAll2_ev x hx hc) ?_
  unfold allB
  have hle := xs_le x
  cases hv : validB x with
  | true =>
    simp only [if_true]
    have := rIdx_l (xsOf x) pos (xs_short x hc) (by omega) (xsOf x).length 0 rfl
    simpa using this
  | false => simp only [Bool.false_eq_true, if_false]; exact ev_if (fun h => by simp at h) fun _ => Ev.now _
def Low (xs : List (List Int)) (pos : List Int) (r : Nat) : Prop := r ≤ xs.length ∧ (∀ t (h : t < xs.length), t < r → cmpL xs[t] pos < 0) ∧ ∀ t (h : t < xs.length), r ≤ t → ¬ cmpL xs[t] pos < 0
theorem bsl_low (xs : List (List Int)) (pos : List Int) (hsr : Srt xs) (hs : Short xs) (hl : xs.length ≤ 1000000) : ∀ (n i j : Nat), j - i ≤ n → i ≤ j → j ≤ xs.length → (∀ t (h : t < xs.length), t < i → cmpL xs[t] pos < 0) → (∀ t (h : t < xs.length), j ≤ t → ¬ cmpL xs[t] pos < 0) →
    ∃ r, Low xs pos r ∧ ∃ K, ∀ k, K ≤ k → ∀ q, n + 1 ≤ q → bsl k xs pos q i j = some (r : Int) := by
  intro n
  induction n with
  | zero =>
    intro i j h1 h2 h3 h4 h5
    obtain rfl : i = j := by omega
    refine ⟨i, ⟨h3, h4, h5⟩, 0, fun k _ q hq => ?_⟩
    obtain ⟨q, rfl⟩ : ∃ q', q = q' + 1 := ⟨q - 1, by omega⟩
    rw [bsl, if_neg (by omega)]
  | succ n ih =>
    intro i j h1 h2 h3 h4 h5
    by_cases hij : i < j
    · have hm : ((i : Int) + (j : Int)) / 2 = (((i + j) / 2 : Nat) : Int) := by omega
      have hml : (i + j) / 2 < xs.length := by omega
      obtain ⟨K0, hK0'⟩ := pCmp_ev xs[(i + j) / 2] pos (hs _ (List.getElem_mem hml))
      have hK0 : ∀ k, K0 ≤ k → position_Compare.f k xs[(i + j) / 2] pos = some (cmpL xs[(i + j) / 2] pos) := hK0'
      by_cases hc : cmpL xs[(i + j) / 2] pos < 0
      · obtain ⟨r, hr, K, hK⟩ := ih ((i + j) / 2 + 1) j (by omega) (by omega) h3 (fun t ht hlt => by
          rcases Nat.lt_or_ge t ((i + j) / 2) with h | h
          · exact cmpL_trans _ _ _ (srt_lt hsr h hml) hc
          · obtain rfl : t = (i + j) / 2 := by omega
            exact hc) h5
        refine ⟨r, hr, max K0 K, fun k hk q hq => ?_⟩
        obtain ⟨q, rfl⟩ : ∃ q', q = q' + 1 := ⟨q - 1, by omega⟩
        rw [bsl, if_pos (by omega), hm, rdL_at _ _ hml, hK0 k (by omega)]
        simp only [Option.bind_some]
        rw [if_pos hc]
        have := hK k (by omega) q (by omega)
        exact_mod_cast this
      · obtain ⟨r, hr, K, hK⟩ := ih i ((i + j) / 2) (by omega) (by omega) (by omega) h4 (fun t ht hlt hneg => by
          rcases Nat.eq_or_lt_of_le hlt with h | h
          · subst h; exact hc hneg
          · exact hc (cmpL_trans _ _ _ (srt_lt hsr h ht) hneg))
        refine ⟨r, hr, max K0 K, fun k hk q hq => ?_⟩
        obtain ⟨q, rfl⟩ : ∃ q', q = q' + 1 := ⟨q - 1, by omega⟩
        rw [bsl, if_pos (by omega), hm, rdL_at _ _ hml, hK0 k (by omega)]
        simp only [Option.bind_some]
        rw [if_neg hc]
        exact hK k (by omega) q (by omega)
    · obtain rfl : i = j := by omega
      refine ⟨i, ⟨h3, h4, h5⟩, 0, fun k _ q hq => ?_⟩
      obtain ⟨q, rfl⟩ : ∃ q', q = q' + 1 := ⟨q - 1, by omega⟩
      rw [bsl, if_neg (by omega)]
theorem idxF_none (pos : List Int) : ∀ (l : List (List Int)) (i : Int), (∀ q ∈ l, cmpL q pos ≠ 0) → idxF pos l i = (0, 2)
  | [], i, _ => rfl
  | q :: l, i, h => by rw [idxF, if_neg (h q (by simp))]; exact idxF_none pos l (i + 1) fun x hx => h x (by simp [hx])
theorem idxF_at (pos : List Int) : ∀ (l : List (List Int)) (i : Int) (r : Nat) (h : r < l.length), (∀ t (ht : t < r), cmpL (l[t]'(by omega)) pos ≠ 0) → cmpL l[r] pos = 0 → idxF pos l i = (i + r, 0)
  | q :: l, i, 0, h, _, h2 => by rw [idxF, if_pos (show cmpL q pos = 0 from h2)]; simp
  | q :: l, i, r + 1, h, h1, h2 => by
    rw [idxF, if_neg (show ¬ cmpL q pos = 0 from h1 0 (by omega))]
    rw [idxF_at pos l (i + 1) r (by simpa using h) (fun t ht => h1 (t + 1) (by omega)) h2]
    push_cast
    simp; omega
theorem low_idx (xs : List (List Int)) (pos : List Int) (hsr : Srt xs) (r : Nat) (h : Low xs pos r) : idxF pos xs 0 = if hr : r < xs.length then (if cmpL xs[r] pos = 0 then ((r : Int), 0) else (0, 2)) else (0, 2) := by
  obtain ⟨h1, h2, h3⟩ := h
  by_cases hr : r < xs.length
  · rw [dif_pos hr]
    by_cases hc : cmpL xs[r] pos = 0
    · rw [if_pos hc, idxF_at pos xs 0 r hr (fun t ht => by have := h2 t (by omega) ht; omega) hc]; simp
    · rw [if_neg hc]
      refine idxF_none pos xs 0 fun q hq => ?_
      obtain ⟨t, ht, rfl⟩ := List.getElem_of_mem hq
      rcases Nat.lt_trichotomy t r with h | h | h
      · have := h2 t ht h; omega
      · subst h; exact hc
      · have a1 := h3 r hr (Nat.le_refl _)
        have a2 := cmpL_neg xs[r] pos
        have a3 := srt_lt hsr h ht
        intro he
        have := cmpL_zero he
        rw [this] at a3
        exact a1 a3
  · rw [dif_neg hr]
    refine idxF_none pos xs 0 fun q hq => ?_
    obtain ⟨t, ht, rfl⟩ := List.getElem_of_mem hq
    have := h2 t ht (by omega); omega
theorem bsf_ev (xs : List (List Int)) (pos : List Int) (hsr : Srt xs) (hs : Short xs) (hl : xs.length ≤ 1000000) : ∃ (i : Int) (b : Bool), Ev (fun k => bsf k xs pos) (i, b) ∧ idxF pos xs 0 = if b = true then (i, 0) else (0, 2) := by
  obtain ⟨r, hr, K, hK⟩ := bsl_low xs pos hsr hs hl xs.length 0 xs.length (by omega) (by omega) (by omega) (fun t h h' => by omega) (fun t h h' => by omega)
  have hlow := low_idx xs pos hsr r hr
  have e1 : Ev (fun k => bsl k xs pos k 0 (xs.length : Int)) (r : Int) := ⟨max K (xs.length + 1), fun k hk => hK k (by omega) k (by omega)⟩
  unfold bsf
  by_cases hrl : r < xs.length
  · rw [dif_pos hrl] at hlow
    refine ⟨r, cmpL xs[r] pos == 0, ?_, ?_⟩
    · refine ev_if (fun _ => ?_) fun h => by omega
      refine Ev.bind (f := fun k i => if i < (xs.length : Int) then (position_Compare.f k (rd_L5 xs i) pos).bind fun c => some (i, c == 0) else some (i, false)) e1 ?_
      refine ev_if (fun _ => ?_) fun h => by omega
      rw [rdL_at _ _ hrl]
      exact Ev.bind (f := fun _ c => some ((r : Int), c == 0)) (pCmp_ev _ _ (hs _ (List.getElem_mem hrl))) (Ev.now _)
    · rw [hlow]
      by_cases hc : cmpL xs[r] pos = 0
      · rw [if_pos hc, if_pos (by simpa using hc)]
      · rw [if_neg hc, if_neg (by simpa using hc)]
  · rw [dif_neg hrl] at hlow
    refine ⟨r, false, ?_, by rw [hlow]; rfl⟩
    refine ev_if (fun _ => ?_) fun h => by omega
    refine Ev.bind (f := fun k i => if i < (xs.length : Int) then (position_Compare.f k (rd_L5 xs i) pos).bind fun c => some (i, c == 0) else some (i, false)) e1 ?_
    exact ev_if (fun h => by omega) fun _ => Ev.now _
theorem pIndex_ev (x : S36) (hx : OkNode x) (hc : cnt x ≤ 100000) (pos : List Int) : Ev (fun k => position_Index.f k x.f0 x.f1 x.f2 x.f3 pos) (idxB x pos) := by
  unfold position_Index.f idxB
  refine Ev.bind (f := fun k b => if b.2 = 0 then (bsf k b.1 pos).bind fun r => if r.2 = true then some (r.1, 0) else some (0, 2) else some (0, b.2)) (pAll_ev x hx) ?_
  unfold allB
  have hle := xs_le x
  cases hv : validB x with
  | true =>
    simp only [if_true]
    obtain ⟨i, b, e1, e2⟩ := bsf_ev (xsOf x) pos (kids_srt _ _ _) (xs_short x hc) (by omega)
    rw [e2]
    refine Ev.bind (f := fun _ (r : Int × Bool) => if r.2 = true then some (r.1, (0 : Int)) else some (0, 2)) e1 ?_
    exact ev_if (fun h => ev_now (by simp only at h; rw [if_pos h])) fun h => ev_now (by simp only at h; rw [if_neg h])
  | false => simp only [Bool.false_eq_true, if_false]; exact ev_if (fun h => by simp at h) fun _ => Ev.now _
def atB (x : S36) (i : Int) : List Int × Int := if validB x = true then (if 0 ≤ i ∧ i < (xsOf x).length then (rd_L5 (xsOf x) i, 0) else ([], 2)) else ([], 1)
theorem pAt_ev (x : S36) (hx : OkNode x) (i : Int) : Ev (fun k => position_At.f k x.f0 x.f1 x.f2 x.f3 i) (atB x i) := by
  unfold position_At.f atB
  refine ev_bind (pAll_ev x hx) ?_
  unfold allB
  cases hv : validB x with
  | true =>
    simp only [if_true]
    refine ev_if (fun h => ev_now (by rw [if_neg (by omega)])) fun h => ?_
    refine ev_if (fun h2 => ev_now (by rw [if_neg (by omega)])) fun h2 => ?_
    refine ev_if (fun _ => ?_) fun h3 => by omega
    exact ev_if (fun _ => ev_now (by rw [if_pos (by omega)])) fun h3 => by omega
  | false => simp only [Bool.false_eq_true, if_false]; exact ev_if (fun h => by simp at h) fun _ => Ev.now _
theorem rAt_ev (x : S36) (hx : OkNode x) (hc : cnt x ≤ 100000) (i : Int) : Ev (fun k => vinculumref10_At.f k x.f0 x.f1 x.f2 x.f3 i) (atB x i) := by
  unfold vinculumref10_At.f atB
  refine ev_bind (rAll2_ev x hx hc) ?_
  unfold allB
  cases hv : validB x with
  | true =>
    simp only [if_true]
    refine ev_if (fun h => ev_now (by rw [if_neg (by omega)])) fun h => ?_
    refine ev_if (fun h2 => ev_now (by rw [if_neg (by omega)])) fun h2 => ?_
    refine ev_if (fun _ => ?_) fun h3 => by omega
    exact ev_if (fun _ => ev_now (by rw [if_pos (by omega)])) fun h3 => by omega
  | false => simp only [Bool.false_eq_true, if_false]; exact ev_if (fun h => by simp at h) fun _ => Ev.now _
def stepB (x : S36) (pos : List Int) (by_ : Int) : List Int × Int := if (idxB x pos).2 = 0 then (if (atB x (wrap64 ((idxB x pos).1 + by_))).2 = 0 then ((atB x (wrap64 ((idxB x pos).1 + by_))).1, 0) else ([], 8)) else ([], (idxB x pos).2)
theorem pStep_ev (x : S36) (hx : OkNode x) (hc : cnt x ≤ 100000) (pos : List Int) (b : Int) : Ev (fun k => position_step.f k x.f0 x.f1 x.f2 x.f3 pos b) (stepB x pos b) := by
  unfold position_step.f stepB
  refine ev_bind (pIndex_ev x hx hc pos) ?_
  refine ev_if (fun h => ?_) fun h => ev_now (by rw [if_neg h])
  rw [if_pos h]
  refine ev_bind (pAt_ev x hx _) ?_
  exact ev_if (fun h => ev_now (by rw [if_pos h])) fun h => ev_now (by rw [if_neg h])
theorem rStep_ev (x : S36) (hx : OkNode x) (hc : cnt x ≤ 100000) (pos : List Int) (b : Int) : Ev (fun k => vinculumref10_Step.f k x.f0 x.f1 x.f2 x.f3 pos b) (stepB x pos b) := by
  unfold vinculumref10_Step.f stepB
  refine ev_bind (rIndex_ev x hx hc pos) ?_
  refine ev_if (fun h => ?_) fun h => ev_now (by rw [if_neg h])
  rw [if_pos h]
  refine ev_bind (rAt_ev x hx hc _) ?_
  exact ev_if (fun h => ev_now (by rw [if_pos h])) fun h => ev_now (by rw [if_neg h])
theorem pNext_ev (x : S36) (hx : OkNode x) (hc : cnt x ≤ 100000) (pos : List Int) : Ev (fun k => position_Next.f k x.f0 x.f1 x.f2 x.f3 pos) (stepB x pos 1) := by
  unfold position_Next.f
  exact ev_bind (pStep_ev x hx hc pos 1) (Ev.now _)
theorem pPrev_ev (x : S36) (hx : OkNode x) (hc : cnt x ≤ 100000) (pos : List Int) : Ev (fun k => position_Prev.f k x.f0 x.f1 x.f2 x.f3 pos) (stepB x pos (-1)) := by
  unfold position_Prev.f
  exact ev_bind (pStep_ev x hx hc pos (-1)) (Ev.now _)
def nX : S36 := ⟨1, ⟨#[]⟩, 0, [⟨2, ⟨#[120]⟩, 0, []⟩, ⟨5, ⟨#[]⟩, 0, [⟨1, ⟨#[]⟩, 0, []⟩, ⟨1, ⟨#[]⟩, 0, []⟩]⟩]⟩
theorem okI_small (n : Int) (h : 0 ≤ n ∧ n < 100) : OkI .i64 n := by
  have := wrap64_wf n
  rwa [wr (by omega)] at this
theorem ok_leaf (k : Int) (s : ByteArray) (hk : 0 ≤ k ∧ k < 100) (hs : s.size ≤ 100) : OkNode ⟨k, s, 0, []⟩ := OkNode.mk _ (okI_small k hk) (by unfold OkS; simp; omega) (okI_small 0 (by omega)) (by simp) (fun y h => by simp at h)
theorem nX_ok : OkNode nX := by
  refine OkNode.mk _ (okI_small 1 (by omega)) (by unfold OkS; decide) (okI_small 0 (by omega)) (by decide) (fun y h => ?_)
  simp only [nX, List.mem_cons, List.mem_nil_iff, or_false] at h
  rcases h with rfl | rfl
  · exact ok_leaf 2 _ (by omega) (by decide)
  · refine OkNode.mk _ (okI_small 5 (by omega)) (by unfold OkS; decide) (okI_small 0 (by omega)) (by decide) (fun z hz => ?_)
    simp only [List.mem_cons, List.mem_nil_iff, or_false, or_self] at hz
    subst hz
    exact ok_leaf 1 _ (by omega) (by decide)
theorem nX_step : stepB nX [1, 0, 0] 1 = ([1, 1, 0], 0) := by decide +kernel
theorem awake10_ev : Ev (fun k => vinculumlaw10_awake.f k) true := by
  unfold vinculumlaw10_awake.f
  have := pNext_ev nX nX_ok (by decide) [1, 0, 0]
  rw [nX_step] at this
  refine ev_bind this ?_
  refine ev_if (fun _ => ?_) fun h => absurd rfl h
  exact ev_bind (same_self [1, 1, 0] (by decide)) (Ev.now _)
theorem few10_ev (x : S36) (hx : OkNode x) (pos : List Int) : Ev (fun k => vinculumlaw10_few.f k x.f0 x.f1 x.f2 x.f3 pos) (decide (cnt x ≤ 200) && decide (pos.length ≤ 60)) := by
  unfold vinculumlaw10_few.f
  refine ev_bind (few_ev x hx 200 (by omega) (by omega)) ?_
  refine ev_if (fun h => ev_now ?_) fun h => ev_now ?_
  · rw [decide_eq_true_eq] at h
    rw [decide_eq_true (show cnt x ≤ 200 by omega), Bool.true_and, decide_eq_decide]; omega
  · rw [decide_eq_true_eq] at h
    rw [decide_eq_false (show ¬ cnt x ≤ 200 by omega)]; rfl
theorem guard10 {α : Type} (x : S36) (hx : OkNode x) (pos : List Int) {g : Nat → Bool → Option Bool} (ht : Ev (fun k => g k true) true) (h : cnt x ≤ 200 → pos.length ≤ 60 → Ev (fun k => g k false) true) :
    Ev (fun k => (vinculumlaw10_awake.f k).bind fun t => (if t = true then ((vinculumlaw10_few.f k x.f0 x.f1 x.f2 x.f3 pos).bind fun t2 => (g k (!t2))) else (g k true))) true := by
  refine ev_bind awake10_ev ?_
  refine ev_if (fun _ => ?_) fun h => absurd rfl h
  refine ev_bind (few10_ev x hx pos) ?_
  by_cases h1 : cnt x ≤ 200 ∧ pos.length ≤ 60
  · rw [decide_eq_true h1.1, decide_eq_true h1.2]; exact h h1.1 h1.2
  · have : (decide (cnt x ≤ 200) && decide (pos.length ≤ 60)) = false := by
      rw [Bool.and_eq_false_iff]
      rcases Decidable.not_and_iff_or_not.1 h1 with h | h
      · exact .inl (decide_eq_false h)
      · exact .inr (decide_eq_false h)
    rw [this]; exact ht
theorem aw {α : Type} : Ev (fun k => (vinculumlaw10_awake.f k).bind fun t => (some t)) true := ev_bind awake10_ev (Ev.now _)
theorem at_short (x : S36) (hc : cnt x ≤ 100000) (i : Int) : (atB x i).1.length ≤ M := by
  unfold atB
  split
  · split
    · rename_i h
      obtain ⟨n, rfl⟩ : ∃ n : Nat, i = n := ⟨i.toNat, by omega⟩
      rw [rdL_at _ _ (by omega)]
      exact xs_short x hc _ (List.getElem_mem _)
    · simp [M]
  · simp [M]
theorem step_short (x : S36) (hc : cnt x ≤ 100000) (l : List Int) (b : Int) : (stepB x l b).1.length ≤ M := by
  unfold stepB
  split
  · split
    · exact at_short x hc _
    · simp [M]
  · simp [M]
end Go.Proofs.YtagkhoeidjlahaaDoor.G.Pure
