-- Written by pack2.py, a program of this session: this session's texts and those that the kit's printer wrote for this claim, pruned to what the claims use.
import Derived.Test.YthdppkmmfjaiaaaGreatDoorCAc2
import Derived.Test.YthdppkmmfjaiaaaGreatDoorCAc14
namespace Go.Proofs.YthdppkmmfjaiaaaGreatDoor.G
open Go.RowKit Go.Proofs.YthdppkmmfjaiaaaGreatDoorW.PrintWords Go.Proofs.YthdppkmmfjaiaaaGreatDoorW.PrintLast Go.Proofs.YthdppkmmfjaiaaaGreatDoorW.PrintMore
attribute [local go_sem] max2_int min2_int max_two min_two max_three min_three max_four min_four
set_option linter.unusedVariables false
set_option linter.unusedSimpArgs false
mutual
def vinculumref26_Class.j0 : Nat → List (S75) → Int → Bool → Int → ByteArray → Int → List (S48) → Option (Int)
  | 0, _, _, _, _, _, _, _ => none
  | k + 1, x0, x6, x14, x343000, x343001, x343002, x343003 => if x14 = true then (if (x343003.length : Int) > 0 then (if 0 < (x343003.length : Int) then (if (((rd_T48 x343003 0).f3).length : Int) = 1 then (if 0 < (((rd_T48 x343003 0).f3).length : Int) then ((vinculumref26_Class.f k x0 ((rd_T48 ((rd_T48 x343003 0).f3) 0).f0) ((rd_T48 ((rd_T48 x343003 0).f3) 0).f1) ((rd_T48 ((rd_T48 x343003 0).f3) 0).f2) ((rd_T48 ((rd_T48 x343003 0).f3) 0).f3)).bind fun t350 => (some t350)) else (none)) else (some 0)) else (none)) else (some 0)) else (if x6 = 5 then (some 7) else (if x6 = 11 then (some 7) else (if x6 = 12 then (some 7) else (some 0))))
def vinculumref26_Class.f : Nat → List (S75) → Int → ByteArray → Int → List (S48) → Option (Int)
  | 0, _, _, _, _, _ => none
  | k + 1, l0, a1_0, a1_1, a1_2, l1_3 => if a1_0 = 2 then ((vinculumref08_Find.f k l0 a1_1).bind fun bt343 => (some bt343.2.1)) else (if a1_0 = 7 then (vinculumref26_Class.j0 k l0 a1_0 (a1_0 == 7) a1_0 a1_1 a1_2 l1_3) else (if a1_0 = 8 then (vinculumref26_Class.j0 k l0 a1_0 (a1_0 == 8) a1_0 a1_1 a1_2 l1_3) else (vinculumref26_Class.j0 k l0 a1_0 (a1_0 == 9) a1_0 a1_1 a1_2 l1_3)))
end
set_option maxHeartbeats 8000000 in
set_option maxRecDepth 100000 in
theorem vinculumref26_Class.calls (k : Nat) : ∀ (A0 : Option Addr) (c0 : Nat) (l0 : List (S75)) (a1_0 : Int) (a1_1 : ByteArray) (a1_2 : Int) (A1_3 : Option Addr) (c1_3 : Nat) (l1_3 : List (S48)) (r : Int) (w : World) (hr0 : Kd.C k75 w A0 l0.length l0) (hc0 : l0.length ≤ c0) (hr1_3 : Kd.C k48 w A1_3 l1_3.length l1_3) (hc1_3 : l1_3.length ≤ c1_3) (h : vinculumref26_Class.f k l0 a1_0 a1_1 a1_2 l1_3 = some r),
    Calls Tryz.prog 25 #[.slice A0 l0.length c0, .agg #[.int .i64 a1_0, .string a1_1, .int .i64 a1_2, .slice A1_3 l1_3.length c1_3]] w fun e w' => e = .returned (.int .i64 r) ∧ Below w.heap.size w w' := by
  induction k using Nat.strongRecOn with
  | _ k ih =>
  intro A0 c0 l0 a1_0 a1_1 a1_2 A1_3 c1_3 l1_3 r w hr0 hc0 hr1_3 hc1_3 h
  cases k with
  | zero => exact absurd h (by simp [vinculumref26_Class.f])
  | succ k =>
  simp only [vinculumref26_Class.f] at h
  have hu48 := Tryz.underlying48
  have hu75 := Tryz.underlying75
  have hfd75_1 : ∀ (x0 x1 x2 x3 : Value) (W : World), (Instr.field 75 (.agg #[x0, x1, x2, x3]) 1).run Tryz.prog W = .ok x1 W := fun _ _ _ _ _ => by kernel_rfl
  have HR0 := Aside0.mk hr0
  have HC0 := Aside0.mk hc0
  clear hr0 hc0
  have HR1_3 := Aside0.mk hr1_3
  have HC1_3 := Aside0.mk hc1_3
  clear hr1_3 hc1_3
  have HB := Aside0.mk (Below.refl w.heap.size w)
  have H : (if a1_0 = 2 then ((vinculumref08_Find.f k l0 a1_1).bind fun bt343 => (some bt343.2.1)) else (if a1_0 = 7 then (vinculumref26_Class.j0 k l0 a1_0 (a1_0 == 7) a1_0 a1_1 a1_2 l1_3) else (if a1_0 = 8 then (vinculumref26_Class.j0 k l0 a1_0 (a1_0 == 8) a1_0 a1_1 a1_2 l1_3) else (vinculumref26_Class.j0 k l0 a1_0 (a1_0 == 9) a1_0 a1_1 a1_2 l1_3)))) = some r := h
  clear h
  by_cases c3 : a1_0 = 2
  · rw [if_pos c3] at H
    have c3b0 : (a1_0 == 2) = true := beq_iff_eq.mpr c3
    have c3b1 : (a1_0 != 2) = false := bne_eq_false_iff_eq.mpr c3
    clear c3
    replace H := Option.bind_eq_some_iff.mp H
    obtain ⟨⟨t343, t344, t345, t346⟩, A40, H⟩ := H
    replace H : (some t344) = some r := H
    have A4 := Aside0.mk A40
    clear A40
    obtain rfl := Option.some.inj H
    go_enter Tryz.func25, Tryz.ntmps25
    go_wp2_with (first | ((with_reducible refine gate_dst (N := 3) rfl ?_); (try (refine gate_guard (by rfl) ?_; dsimp only)); refine box_event ?hg (N := 3) ?hd (cs := #[.int .i64 a1_0, .string a1_1, .int .i64 a1_2, .slice A1_3 l1_3.length c1_3]) (t := 48) ?hr ?_; (case hd => rfl); (case hg => rfl); (case hr => first | (go_simp; done) | (go_simp; rfl)); intro gb342 hg w5 hbox hb; have n0_ := Aside0.mk (below_step (by repeat (first | (with_reducible first | exact HB.out | apply below_alloc | apply pw_below_drewN | apply below_drew1) | exact HB.out)) hb); have n1_ := Aside0.mk (hbox); have n2_ := Aside0.mk ((by rw [hg]; exact (below_size (by repeat (first | (with_reducible first | exact HB.out | apply below_alloc | apply pw_below_drewN | apply below_drew1) | exact HB.out))) : w.heap.size ≤ gb342)); have n3_ := Aside0.mk ((by rw [hg]; exact (below_size (by repeat (first | (with_reducible first | exact HB.out | apply below_alloc | apply pw_below_drewN | apply below_drew1) | exact HB.out))) : w.heap.size ≤ gb342)); clear HB; have HB := n0_; have BK342 := n1_; have GW342 := n2_; have GE342 := n3_; clear n0_ n1_ n2_ n3_; clear hb hbox hg; have hcz6_0 : w5.cell? ⟨gb342, 0, none⟩ = some (.int .i64 a1_0) := (blk_cell BK342.out 0).trans rfl; have hcz6_1 : w5.cell? ⟨gb342, 1, none⟩ = some (.string a1_1) := (blk_cell BK342.out 1).trans rfl; have hcz6_2 : w5.cell? ⟨gb342, 2, none⟩ = some (.int .i64 a1_2) := (blk_cell BK342.out 2).trans rfl; have hcz6_3 : w5.cell? ⟨gb342, 3, none⟩ = some (.slice A1_3 l1_3.length c1_3) := (blk_cell BK342.out 3).trans rfl; have hfz6_0 := blk_frozen BK342.out 0; have hfz6_1 := blk_frozen BK342.out 1; have hfz6_2 := blk_frozen BK342.out 2; have hfz6_3 := blk_frozen BK342.out 3) | ((with_reducible refine gate_callee (f := 44) rfl ?_); refine goesL_ (some 12) rfl rfl Tryz.func44 (by kernel_rfl) rfl #[.slice A0 l0.length c0, .string a1_1] rfl (by (try simp only [List.map_toArray, List.map_cons, List.map_nil]); first | done | rfl | (simp only [List.length_drop, List.length_take]; rfl)) ?_; (with_reducible refine (vinculumref08_Find.calls k _ _ l0 a1_1 t343 t344 t345 t346 _ ?side1 ?side2 A4.out).mono ?_); (case side1 => repeat (first | exact (Kd.C_below HR0.out HB.out) | (with_reducible refine Kd.C_alloc ?_ _) | (with_reducible refine Kd.C_drewN ?_ _) | (with_reducible refine Kd.C_drew ?_))); (case side2 => exact HC0.out); rintro e w7 ⟨rfl, hb⟩; refine ⟨_, rfl, ?_⟩; have n0_ := Aside0.mk (blk_below (g := gb342) (o := .cells #[.int .i64 a1_0, .string a1_1, .int .i64 a1_2, .slice A1_3 l1_3.length c1_3] 48 (0, 0)) (by (with_reducible repeat (first | refine blk_drewN ?_ _ | refine blk_drew ?_ | refine blk_alloc ?_ _)); exact BK342.out) hb); have n1_ := Aside0.mk (below_step (by repeat (first | (with_reducible first | exact HB.out | apply below_alloc | apply pw_below_drewN | apply below_drew1 | refine below_set ?_ GE342.out) | exact HB.out)) hb); clear BK342; clear HB; have BK342 := n0_; have HB := n1_; clear n0_ n1_; (try clear hb); (try clear hb2); (try clear hk); (try clear hi)))
    go_ret
    exact ⟨by first | rfl | (simp [errW_none, errW_some] <;> rfl) | (simp [*, errW_none, errW_some] <;> rfl), by repeat (first | (with_reducible first | exact HB.out | apply below_alloc | apply pw_below_drewN | apply below_drew1 | refine below_set ?_ GE342.out) | exact HB.out)⟩
  · rw [if_neg c3] at H
    have c3b0 : (a1_0 == 2) = false := beq_eq_false_iff_ne.mpr c3
    have c3b1 : (a1_0 != 2) = true := bne_iff_ne.mpr c3
    have HC8 := Aside0.mk H
    clear H
    go_enter Tryz.func25, Tryz.ntmps25
    go_upto_if 14 with (first | ((with_reducible refine gate_dst (N := 3) rfl ?_); (try (refine gate_guard (by rfl) ?_; dsimp only)); refine box_event ?hg (N := 3) ?hd (cs := #[.int .i64 a1_0, .string a1_1, .int .i64 a1_2, .slice A1_3 l1_3.length c1_3]) (t := 48) ?hr ?_; (case hd => rfl); (case hg => rfl); (case hr => first | (go_simp; done) | (go_simp; rfl)); intro gb342 hg w9 hbox hb; have n0_ := Aside0.mk (below_step (by repeat (first | (with_reducible first | exact HB.out | apply below_alloc | apply pw_below_drewN | apply below_drew1) | exact HB.out)) hb); have n1_ := Aside0.mk (hbox); have n2_ := Aside0.mk ((by rw [hg]; exact (below_size (by repeat (first | (with_reducible first | exact HB.out | apply below_alloc | apply pw_below_drewN | apply below_drew1) | exact HB.out))) : w.heap.size ≤ gb342)); have n3_ := Aside0.mk ((by rw [hg]; exact (below_size (by repeat (first | (with_reducible first | exact HB.out | apply below_alloc | apply pw_below_drewN | apply below_drew1) | exact HB.out))) : w.heap.size ≤ gb342)); clear HB; have HB := n0_; have BK342 := n1_; have GW342 := n2_; have GE342 := n3_; clear n0_ n1_ n2_ n3_; clear hb hbox hg; have hcz10_0 : w9.cell? ⟨gb342, 0, none⟩ = some (.int .i64 a1_0) := (blk_cell BK342.out 0).trans rfl; have hcz10_1 : w9.cell? ⟨gb342, 1, none⟩ = some (.string a1_1) := (blk_cell BK342.out 1).trans rfl; have hcz10_2 : w9.cell? ⟨gb342, 2, none⟩ = some (.int .i64 a1_2) := (blk_cell BK342.out 2).trans rfl; have hcz10_3 : w9.cell? ⟨gb342, 3, none⟩ = some (.slice A1_3 l1_3.length c1_3) := (blk_cell BK342.out 3).trans rfl; have hfz10_0 := blk_frozen BK342.out 0; have hfz10_1 := blk_frozen BK342.out 1; have hfz10_2 := blk_frozen BK342.out 2; have hfz10_3 := blk_frozen BK342.out 3))
    (try simp only [Act.put, List.setIfInBounds_toArray, List.set_cons_zero, List.set_cons_succ])
    go_cut [14] (fun v14 wc => ∃ (kq : Nat) (x14_7 : Bool), v14 = .bool x14_7 ∧ Aside0 (vinculumref26_Class.j0 kq l0 a1_0 x14_7 a1_0 a1_1 a1_2 l1_3 = some r) ∧ Aside0 (kq ≤ k) ∧ Aside0 (wc.heap[gb342]? = some (.cells #[.int .i64 a1_0, .string a1_1, .int .i64 a1_2, (.slice A1_3 l1_3.length c1_3)] 48 (0, 0))) ∧ Aside0 (Below w.heap.size w wc))
    case first =>
      have H := HC8.out
      clear HC8
      by_cases c11 : a1_0 = 7
      · rw [if_pos c11] at H
        have c11b0 : (a1_0 == 7) = true := beq_iff_eq.mpr c11
        have c11b1 : (a1_0 != 7) = false := bne_eq_false_iff_eq.mpr c11
        clear c11
        (first | rw [c11b0] | (simp only [i64_w, i32_w]; rw [c11b0]) | skip)
        have H' := Aside0.mk H
        clear H
        go_wp2
        go_meet
        case rel => exact ⟨_, ((a1_0 == 7)), (by first | rfl | (simp; done) | (simp [*]; done)), H', ⟨by first | omega | exact Nat.le_refl _⟩, ⟨by (with_reducible repeat (first | refine blk_drewN ?_ _ | refine blk_drew ?_ | refine blk_alloc ?_ _)); exact BK342.out⟩, ⟨by repeat (first | (with_reducible first | exact HB.out | apply below_alloc | apply pw_below_drewN | apply below_drew1 | refine below_set ?_ GE342.out) | exact HB.out)⟩⟩
      · rw [if_neg c11] at H
        have c11b0 : (a1_0 == 7) = false := beq_eq_false_iff_ne.mpr c11
        have c11b1 : (a1_0 != 7) = true := bne_iff_ne.mpr c11
        (first | rw [c11b0] | (simp only [i64_w, i32_w]; rw [c11b0]) | skip)
        by_cases c12 : a1_0 = 8
        · rw [if_pos c12] at H
          have c12b0 : (a1_0 == 8) = true := beq_iff_eq.mpr c12
          have c12b1 : (a1_0 != 8) = false := bne_eq_false_iff_eq.mpr c12
          clear c12
          have H' := Aside0.mk H
          clear H
          go_wp2
          go_meet
          case rel => exact ⟨_, ((a1_0 == 8)), (by first | rfl | (simp; done) | (simp [*]; done)), H', ⟨by first | omega | exact Nat.le_refl _⟩, ⟨by (with_reducible repeat (first | refine blk_drewN ?_ _ | refine blk_drew ?_ | refine blk_alloc ?_ _)); exact BK342.out⟩, ⟨by repeat (first | (with_reducible first | exact HB.out | apply below_alloc | apply pw_below_drewN | apply below_drew1 | refine below_set ?_ GE342.out) | exact HB.out)⟩⟩
        · rw [if_neg c12] at H
          have c12b0 : (a1_0 == 8) = false := beq_eq_false_iff_ne.mpr c12
          have c12b1 : (a1_0 != 8) = true := bne_iff_ne.mpr c12
          have H' := Aside0.mk H
          clear H
          go_wp2
          go_meet
          case rel => exact ⟨_, ((a1_0 == 9)), (by first | rfl | (simp; done) | (simp [*]; done)), H', ⟨by first | omega | exact Nat.le_refl _⟩, ⟨by (with_reducible repeat (first | refine blk_drewN ?_ _ | refine blk_drew ?_ | refine blk_alloc ?_ _)); exact BK342.out⟩, ⟨by repeat (first | (with_reducible first | exact HB.out | apply below_alloc | apply pw_below_drewN | apply below_drew1 | refine below_set ?_ GE342.out) | exact HB.out)⟩⟩
    case rest =>
      clear HC8
      try clear c1
      try clear c2
      try clear p2
      try clear c3
      try clear c3b0
      try clear c3b1
      try clear c4
      try clear c11
      try clear c11b0
      try clear c11b1
      try clear c12
      try clear c12b0
      try clear c12b1
      try clear hcz10_0
      try clear hcz10_1
      try clear hcz10_2
      try clear hcz10_3
      try clear hcz6_0
      try clear hcz6_1
      try clear hcz6_2
      try clear hcz6_3
      try clear hfz10_0
      try clear hfz10_1
      try clear hfz10_2
      try clear hfz10_3
      try clear hfz6_0
      try clear hfz6_1
      try clear hfz6_2
      try clear hfz6_3
      obtain ⟨kq, x14_7, rfl, HA, HJ7, BK342, HB⟩ := hcut
      cases kq with
      | zero => exact absurd HA.out (by simp [vinculumref26_Class.j0])
      | succ kj7 =>
        have H := HA.out
        clear HA
        simp only [vinculumref26_Class.j0] at H
        by_cases c13 : x14_7 = true
        · subst c13
          have H1 : (if (l1_3.length : Int) > 0 then (if 0 < (l1_3.length : Int) then (if (((rd_T48 l1_3 0).f3).length : Int) = 1 then (if 0 < (((rd_T48 l1_3 0).f3).length : Int) then ((vinculumref26_Class.f kj7 l0 ((rd_T48 ((rd_T48 l1_3 0).f3) 0).f0) ((rd_T48 ((rd_T48 l1_3 0).f3) 0).f1) ((rd_T48 ((rd_T48 l1_3 0).f3) 0).f2) ((rd_T48 ((rd_T48 l1_3 0).f3) 0).f3)).bind fun t350 => (some t350)) else (none)) else (some 0)) else (none)) else (some 0)) = some r := by rw [if_pos rfl] at H; exact H
          clear H
          have H := H1
          clear H1
          by_cases c14 : (l1_3.length : Int) > 0
          · rw [if_pos c14] at H
            have c14b0 : decide (0 < (l1_3.length : Int)) = true := decide_eq_true c14
            have c14b1 : decide (0 < l1_3.length) = true := decide_eq_true (by omega)
            clear c14
            by_cases c15 : 0 < (l1_3.length : Int)
            · rw [if_pos c15] at H
              have c15b0 : decide (0 < (l1_3.length : Int)) = true := decide_eq_true c15
              have c15b1 : decide (0 < l1_3.length) = true := decide_eq_true (by omega)
              clear c15
              by_cases c16 : (((rd_T48 l1_3 0).f3).length : Int) = 1
              · rw [if_pos c16] at H
                have c16b0 : ((((rd_T48 l1_3 0).f3).length : Int) == 1) = true := beq_iff_eq.mpr c16
                have c16b1 : ((((rd_T48 l1_3 0).f3).length : Int) != 1) = false := bne_eq_false_iff_eq.mpr c16
                clear c16
                by_cases c17 : 0 < (((rd_T48 l1_3 0).f3).length : Int)
                · rw [if_pos c17] at H
                  have c17b0 : decide (0 < (((rd_T48 l1_3 0).f3).length : Int)) = true := decide_eq_true c17
                  have c17b1 : decide (0 < ((rd_T48 l1_3 0).f3).length) = true := decide_eq_true (by omega)
                  clear c17
                  replace H := Option.bind_eq_some_iff.mp H
                  obtain ⟨t350, A180, H⟩ := H
                  replace H : (some t350) = some r := H
                  have A18 := Aside0.mk A180
                  clear A180
                  obtain rfl := Option.some.inj H
                  have hcz19_0 : wc.cell? ⟨gb342, 0, none⟩ = some (.int .i64 a1_0) := (blk_cell BK342.out 0).trans rfl
                  have hcz19_1 : wc.cell? ⟨gb342, 1, none⟩ = some (.string a1_1) := (blk_cell BK342.out 1).trans rfl
                  have hcz19_2 : wc.cell? ⟨gb342, 2, none⟩ = some (.int .i64 a1_2) := (blk_cell BK342.out 2).trans rfl
                  have hcz19_3 : wc.cell? ⟨gb342, 3, none⟩ = some (.slice A1_3 l1_3.length c1_3) := (blk_cell BK342.out 3).trans rfl
                  have hfz19_0 := blk_frozen BK342.out 0
                  have hfz19_1 := blk_frozen BK342.out 1
                  have hfz19_2 := blk_frozen BK342.out 2
                  have hfz19_3 := blk_frozen BK342.out 3
                  have p347 : 0 ≤ (0 : Int) := (by omega)
                  have q347 : 0 < (l1_3.length : Int) := of_decide_eq_true (by first | (with_reducible assumption) | assumption)
                  obtain ⟨ad347, A347_3, c347_3, e347, hx347_0, hx347_1, hx347_2, hx347_3, hl347_3, hi347_3⟩ := at_T48 HR1_3.out 0 p347 q347
                  cases e347
                  have qi347 : (0 < l1_3.length) = True := eq_true (by omega)
                  (try rw [show ((0 : Int)).toNat = 0 from rfl] at hx347_0)
                  (try rw [show 0 * 4 = 0 from rfl] at hx347_0)
                  (try rw [Addr.add_zero'] at hx347_0)
                  (try rw [show ((0 : Int)).toNat = 0 from rfl] at hx347_1)
                  (try rw [show 0 * 4 = 0 from rfl] at hx347_1)
                  (try rw [Addr.add_zero'] at hx347_1)
                  (try rw [show ((0 : Int)).toNat = 0 from rfl] at hx347_2)
                  (try rw [show 0 * 4 = 0 from rfl] at hx347_2)
                  (try rw [Addr.add_zero'] at hx347_2)
                  (try rw [show ((0 : Int)).toNat = 0 from rfl] at hx347_3)
                  (try rw [show 0 * 4 = 0 from rfl] at hx347_3)
                  (try rw [Addr.add_zero'] at hx347_3)
                  replace hx347_0 := (HB.out.cell (World.block_lt_of_cell? w _ hx347_0)).trans hx347_0
                  replace hx347_1 := (HB.out.cell (World.block_lt_of_cell? w _ hx347_1)).trans hx347_1
                  replace hx347_2 := (HB.out.cell (World.block_lt_of_cell? w _ hx347_2)).trans hx347_2
                  replace hx347_3 := (HB.out.cell (World.block_lt_of_cell? w _ hx347_3)).trans hx347_3
                  have HR347_3 := Aside0.mk hi347_3
                  have HC347_3 := Aside0.mk hl347_3
                  clear hi347_3 hl347_3
                  replace p347 := eq_true p347
                  replace q347 := eq_true q347
                  have p348 : 0 ≤ (0 : Int) := (by omega)
                  have q348 : 0 < (l1_3.length : Int) := of_decide_eq_true (by first | (with_reducible assumption) | assumption)
                  obtain ⟨ad348, A348_3, c348_3, e348, hx348_0, hx348_1, hx348_2, hx348_3, hl348_3, hi348_3⟩ := at_T48 HR1_3.out 0 p348 q348
                  obtain rfl : ad347 = ad348 := (by injection e348)
                  have qi348 : (0 < l1_3.length) = True := eq_true (by omega)
                  (try rw [show ((0 : Int)).toNat = 0 from rfl] at hx348_0)
                  (try rw [show 0 * 4 = 0 from rfl] at hx348_0)
                  (try rw [Addr.add_zero'] at hx348_0)
                  (try rw [show ((0 : Int)).toNat = 0 from rfl] at hx348_1)
                  (try rw [show 0 * 4 = 0 from rfl] at hx348_1)
                  (try rw [Addr.add_zero'] at hx348_1)
                  (try rw [show ((0 : Int)).toNat = 0 from rfl] at hx348_2)
                  (try rw [show 0 * 4 = 0 from rfl] at hx348_2)
                  (try rw [Addr.add_zero'] at hx348_2)
                  (try rw [show ((0 : Int)).toNat = 0 from rfl] at hx348_3)
                  (try rw [show 0 * 4 = 0 from rfl] at hx348_3)
                  (try rw [Addr.add_zero'] at hx348_3)
                  replace hx348_0 := (HB.out.cell (World.block_lt_of_cell? w _ hx348_0)).trans hx348_0
                  replace hx348_1 := (HB.out.cell (World.block_lt_of_cell? w _ hx348_1)).trans hx348_1
                  replace hx348_2 := (HB.out.cell (World.block_lt_of_cell? w _ hx348_2)).trans hx348_2
                  replace hx348_3 := (HB.out.cell (World.block_lt_of_cell? w _ hx348_3)).trans hx348_3
                  have HR348_3 := Aside0.mk hi348_3
                  have HC348_3 := Aside0.mk hl348_3
                  clear hi348_3 hl348_3
                  replace p348 := eq_true p348
                  replace q348 := eq_true q348
                  have ea_ := Option.some.inj (hx347_3.symm.trans hx348_3)
                  injection ea_ with ea_ en_ ec_
                  subst ea_
                  subst ec_
                  clear en_
                  have p349 : 0 ≤ (0 : Int) := (by omega)
                  have q349 : 0 < (((rd_T48 l1_3 0).f3).length : Int) := of_decide_eq_true (by first | (with_reducible assumption) | assumption)
                  obtain ⟨ad349, A349_3, c349_3, e349, hx349_0, hx349_1, hx349_2, hx349_3, hl349_3, hi349_3⟩ := at_T48 HR348_3.out 0 p349 q349
                  cases e349
                  have qi349 : (0 < ((rd_T48 l1_3 0).f3).length) = True := eq_true (by omega)
                  (try rw [show ((0 : Int)).toNat = 0 from rfl] at hx349_0)
                  (try rw [show 0 * 4 = 0 from rfl] at hx349_0)
                  (try rw [Addr.add_zero'] at hx349_0)
                  (try rw [show ((0 : Int)).toNat = 0 from rfl] at hx349_1)
                  (try rw [show 0 * 4 = 0 from rfl] at hx349_1)
                  (try rw [Addr.add_zero'] at hx349_1)
                  (try rw [show ((0 : Int)).toNat = 0 from rfl] at hx349_2)
                  (try rw [show 0 * 4 = 0 from rfl] at hx349_2)
                  (try rw [Addr.add_zero'] at hx349_2)
                  (try rw [show ((0 : Int)).toNat = 0 from rfl] at hx349_3)
                  (try rw [show 0 * 4 = 0 from rfl] at hx349_3)
                  (try rw [Addr.add_zero'] at hx349_3)
                  replace hx349_0 := (HB.out.cell (World.block_lt_of_cell? w _ hx349_0)).trans hx349_0
                  replace hx349_1 := (HB.out.cell (World.block_lt_of_cell? w _ hx349_1)).trans hx349_1
                  replace hx349_2 := (HB.out.cell (World.block_lt_of_cell? w _ hx349_2)).trans hx349_2
                  replace hx349_3 := (HB.out.cell (World.block_lt_of_cell? w _ hx349_3)).trans hx349_3
                  have HR349_3 := Aside0.mk hi349_3
                  have HC349_3 := Aside0.mk hl349_3
                  clear hi349_3 hl349_3
                  replace p349 := eq_true p349
                  replace q349 := eq_true q349
                  go_wp2_with (first | ((with_reducible refine gate_callee (f := 25) rfl ?_); refine goesL_ (some 39) rfl rfl Tryz.func25 (by kernel_rfl) rfl #[.slice A0 l0.length c0, .agg #[.int .i64 ((rd_T48 ((rd_T48 l1_3 0).f3) 0).f0), .string ((rd_T48 ((rd_T48 l1_3 0).f3) 0).f1), .int .i64 ((rd_T48 ((rd_T48 l1_3 0).f3) 0).f2), .slice A349_3 ((rd_T48 ((rd_T48 l1_3 0).f3) 0).f3).length c349_3]] rfl (by (try simp only [List.map_toArray, List.map_cons, List.map_nil]); first | done | rfl | (simp only [List.length_drop, List.length_take]; rfl)) ?_; (with_reducible refine (ih kj7 (by have := HJ7.out; omega) _ _ l0 ((rd_T48 ((rd_T48 l1_3 0).f3) 0).f0) ((rd_T48 ((rd_T48 l1_3 0).f3) 0).f1) ((rd_T48 ((rd_T48 l1_3 0).f3) 0).f2) _ _ ((rd_T48 ((rd_T48 l1_3 0).f3) 0).f3) t350 _ ?side1 ?side2 ?side3 ?side4 A18.out).mono ?_); (case side1 => repeat (first | exact (Kd.C_below HR0.out HB.out) | (with_reducible refine Kd.C_alloc ?_ _) | (with_reducible refine Kd.C_drewN ?_ _) | (with_reducible refine Kd.C_drew ?_))); (case side2 => exact HC0.out); (case side3 => repeat (first | exact (Kd.C_below HR349_3.out HB.out) | (with_reducible refine Kd.C_alloc ?_ _) | (with_reducible refine Kd.C_drewN ?_ _) | (with_reducible refine Kd.C_drew ?_))); (case side4 => exact HC349_3.out); rintro e w20 ⟨rfl, hb⟩; refine ⟨_, rfl, ?_⟩; have n0_ := Aside0.mk (blk_below (g := gb342) (o := .cells #[.int .i64 a1_0, .string a1_1, .int .i64 a1_2, .slice (some ad347) l1_3.length c1_3] 48 (0, 0)) (by (with_reducible repeat (first | refine blk_drewN ?_ _ | refine blk_drew ?_ | refine blk_alloc ?_ _)); exact BK342.out) hb); have n1_ := Aside0.mk (below_step (by repeat (first | (with_reducible first | exact HB.out | apply below_alloc | apply pw_below_drewN | apply below_drew1 | refine below_set ?_ GE342.out) | exact HB.out)) hb); clear BK342; clear HB; have BK342 := n0_; have HB := n1_; clear n0_ n1_; (try clear hb); (try clear hb2); (try clear hk); (try clear hi)))
                  go_ret
                  exact ⟨by first | rfl | (simp [errW_none, errW_some] <;> rfl) | (simp [*, errW_none, errW_some] <;> rfl), by repeat (first | (with_reducible first | exact HB.out | apply below_alloc | apply pw_below_drewN | apply below_drew1 | refine below_set ?_ GE342.out) | exact HB.out)⟩
                · rw [if_neg c17] at H
                  exact absurd H (by simp)
              · rw [if_neg c16] at H
                have c16b0 : ((((rd_T48 l1_3 0).f3).length : Int) == 1) = false := beq_eq_false_iff_ne.mpr c16
                have c16b1 : ((((rd_T48 l1_3 0).f3).length : Int) != 1) = true := bne_iff_ne.mpr c16
                obtain rfl := Option.some.inj H
                have hcz21_0 : wc.cell? ⟨gb342, 0, none⟩ = some (.int .i64 a1_0) := (blk_cell BK342.out 0).trans rfl
                have hcz21_1 : wc.cell? ⟨gb342, 1, none⟩ = some (.string a1_1) := (blk_cell BK342.out 1).trans rfl
                have hcz21_2 : wc.cell? ⟨gb342, 2, none⟩ = some (.int .i64 a1_2) := (blk_cell BK342.out 2).trans rfl
                have hcz21_3 : wc.cell? ⟨gb342, 3, none⟩ = some (.slice A1_3 l1_3.length c1_3) := (blk_cell BK342.out 3).trans rfl
                have hfz21_0 := blk_frozen BK342.out 0
                have hfz21_1 := blk_frozen BK342.out 1
                have hfz21_2 := blk_frozen BK342.out 2
                have hfz21_3 := blk_frozen BK342.out 3
                have p347 : 0 ≤ (0 : Int) := (by omega)
                have q347 : 0 < (l1_3.length : Int) := of_decide_eq_true (by first | (with_reducible assumption) | assumption)
                obtain ⟨ad347, A347_3, c347_3, e347, hx347_0, hx347_1, hx347_2, hx347_3, hl347_3, hi347_3⟩ := at_T48 HR1_3.out 0 p347 q347
                cases e347
                have qi347 : (0 < l1_3.length) = True := eq_true (by omega)
                (try rw [show ((0 : Int)).toNat = 0 from rfl] at hx347_0)
                (try rw [show 0 * 4 = 0 from rfl] at hx347_0)
                (try rw [Addr.add_zero'] at hx347_0)
                (try rw [show ((0 : Int)).toNat = 0 from rfl] at hx347_1)
                (try rw [show 0 * 4 = 0 from rfl] at hx347_1)
                (try rw [Addr.add_zero'] at hx347_1)
                (try rw [show ((0 : Int)).toNat = 0 from rfl] at hx347_2)
                (try rw [show 0 * 4 = 0 from rfl] at hx347_2)
                (try rw [Addr.add_zero'] at hx347_2)
                (try rw [show ((0 : Int)).toNat = 0 from rfl] at hx347_3)
                (try rw [show 0 * 4 = 0 from rfl] at hx347_3)
                (try rw [Addr.add_zero'] at hx347_3)
                replace hx347_0 := (HB.out.cell (World.block_lt_of_cell? w _ hx347_0)).trans hx347_0
                replace hx347_1 := (HB.out.cell (World.block_lt_of_cell? w _ hx347_1)).trans hx347_1
                replace hx347_2 := (HB.out.cell (World.block_lt_of_cell? w _ hx347_2)).trans hx347_2
                replace hx347_3 := (HB.out.cell (World.block_lt_of_cell? w _ hx347_3)).trans hx347_3
                have HR347_3 := Aside0.mk hi347_3
                have HC347_3 := Aside0.mk hl347_3
                clear hi347_3 hl347_3
                replace p347 := eq_true p347
                replace q347 := eq_true q347
                go_wp2
                go_ret
                exact ⟨by first | rfl | (simp [errW_none, errW_some] <;> rfl) | (simp [*, errW_none, errW_some] <;> rfl), by repeat (first | (with_reducible first | exact HB.out | apply below_alloc | apply pw_below_drewN | apply below_drew1 | refine below_set ?_ GE342.out) | exact HB.out)⟩
            · rw [if_neg c15] at H
              exact absurd H (by simp)
          · rw [if_neg c14] at H
            have c14b0 : decide (0 < (l1_3.length : Int)) = false := decide_eq_false c14
            have c14b1 : decide (0 < l1_3.length) = false := decide_eq_false (by omega)
            clear c14
            obtain rfl := Option.some.inj H
            have hcz22_0 : wc.cell? ⟨gb342, 0, none⟩ = some (.int .i64 a1_0) := (blk_cell BK342.out 0).trans rfl
            have hcz22_1 : wc.cell? ⟨gb342, 1, none⟩ = some (.string a1_1) := (blk_cell BK342.out 1).trans rfl
            have hcz22_2 : wc.cell? ⟨gb342, 2, none⟩ = some (.int .i64 a1_2) := (blk_cell BK342.out 2).trans rfl
            have hcz22_3 : wc.cell? ⟨gb342, 3, none⟩ = some (.slice A1_3 l1_3.length c1_3) := (blk_cell BK342.out 3).trans rfl
            have hfz22_0 := blk_frozen BK342.out 0
            have hfz22_1 := blk_frozen BK342.out 1
            have hfz22_2 := blk_frozen BK342.out 2
            have hfz22_3 := blk_frozen BK342.out 3
            go_wp2
            go_ret
            exact ⟨by first | rfl | (simp [errW_none, errW_some] <;> rfl) | (simp [*, errW_none, errW_some] <;> rfl), by repeat (first | (with_reducible first | exact HB.out | apply below_alloc | apply pw_below_drewN | apply below_drew1 | refine below_set ?_ GE342.out) | exact HB.out)⟩
        · replace c13 := Bool.eq_false_iff.mpr c13
          subst c13
          have H1 : (if a1_0 = 5 then (some 7) else (if a1_0 = 11 then (some 7) else (if a1_0 = 12 then (some 7) else (some 0)))) = some r := by rw [if_neg (show ¬ (false = true) by decide)] at H; exact H
          clear H
          have H := H1
          clear H1
          by_cases c23 : a1_0 = 5
          · rw [if_pos c23] at H
            have c23b0 : (a1_0 == 5) = true := beq_iff_eq.mpr c23
            have c23b1 : (a1_0 != 5) = false := bne_eq_false_iff_eq.mpr c23
            clear c23
            obtain rfl := Option.some.inj H
            go_wp2
            go_ret
            exact ⟨by first | rfl | (simp [errW_none, errW_some] <;> rfl) | (simp [*, errW_none, errW_some] <;> rfl), by repeat (first | (with_reducible first | exact HB.out | apply below_alloc | apply pw_below_drewN | apply below_drew1 | refine below_set ?_ GE342.out) | exact HB.out)⟩
          · rw [if_neg c23] at H
            have c23b0 : (a1_0 == 5) = false := beq_eq_false_iff_ne.mpr c23
            have c23b1 : (a1_0 != 5) = true := bne_iff_ne.mpr c23
            by_cases c24 : a1_0 = 11
            · rw [if_pos c24] at H
              have c24b0 : (a1_0 == 11) = true := beq_iff_eq.mpr c24
              have c24b1 : (a1_0 != 11) = false := bne_eq_false_iff_eq.mpr c24
              clear c24
              obtain rfl := Option.some.inj H
              go_wp2
              go_ret
              exact ⟨by first | rfl | (simp [errW_none, errW_some] <;> rfl) | (simp [*, errW_none, errW_some] <;> rfl), by repeat (first | (with_reducible first | exact HB.out | apply below_alloc | apply pw_below_drewN | apply below_drew1 | refine below_set ?_ GE342.out) | exact HB.out)⟩
            · rw [if_neg c24] at H
              have c24b0 : (a1_0 == 11) = false := beq_eq_false_iff_ne.mpr c24
              have c24b1 : (a1_0 != 11) = true := bne_iff_ne.mpr c24
              by_cases c25 : a1_0 = 12
              · rw [if_pos c25] at H
                have c25b0 : (a1_0 == 12) = true := beq_iff_eq.mpr c25
                have c25b1 : (a1_0 != 12) = false := bne_eq_false_iff_eq.mpr c25
                clear c25
                obtain rfl := Option.some.inj H
                go_wp2
                go_ret
                exact ⟨by first | rfl | (simp [errW_none, errW_some] <;> rfl) | (simp [*, errW_none, errW_some] <;> rfl), by repeat (first | (with_reducible first | exact HB.out | apply below_alloc | apply pw_below_drewN | apply below_drew1 | refine below_set ?_ GE342.out) | exact HB.out)⟩
              · rw [if_neg c25] at H
                have c25b0 : (a1_0 == 12) = false := beq_eq_false_iff_ne.mpr c25
                have c25b1 : (a1_0 != 12) = true := bne_iff_ne.mpr c25
                obtain rfl := Option.some.inj H
                go_wp2
                go_ret
                exact ⟨by first | rfl | (simp [errW_none, errW_some] <;> rfl) | (simp [*, errW_none, errW_some] <;> rfl), by repeat (first | (with_reducible first | exact HB.out | apply below_alloc | apply pw_below_drewN | apply below_drew1 | refine below_set ?_ GE342.out) | exact HB.out)⟩
end Go.Proofs.YthdppkmmfjaiaaaGreatDoor.G
