-- Written by pack.py, a program of this session: this session's texts and those that the kit's printer wrote for this claim, pruned to what the claim uses.
import Derived.Test.YtagkhoeidjlahaaDoorCPositionComplete6
import Derived.Test.YtagkhoeidjlahaaDoorRows
import Derived.Test.YtagkhoeidjlahaaDoorTie
import Derived.Test.YtagkhoeidjlahaaDoorCards
import Derived.WalkKit
import Derived.ProofKit
import Derived.OpenShut
import Derived.ShutString
import Derived.ChangeOld
import Derived.Below
import Derived.SizedLaws
import Derived.LaidMore
import Derived.Lay
import Derived.SevenTiedAt
import Derived.Stop.Joined
namespace Go.Proofs.YtagkhoeidjlahaaDoor.G
open Go.RowKit Go.Proofs.YtagkhoeidjlahaaDoorW.PrintWords Go.Proofs.YtagkhoeidjlahaaDoorW.PrintLast Go.Proofs.YtagkhoeidjlahaaDoorW.PrintMore
attribute [local go_sem] max2_int min2_int max_two min_two max_three min_three max_four min_four
set_option linter.unusedVariables false
set_option linter.unusedSimpArgs false
mutual
def vinculumlaw10_PositionComplete.j0 : Nat → Bool → Int → ByteArray → Int → List (S36) → Option (Bool)
  | 0, _, _, _, _, _ => none
  | k + 1, x12, x633000, x633001, x633002, x633003 => if x12 = true then ((vinculumlaw10_awake.f k).bind fun t635 => (some t635)) else ((position_All.f k x633000 x633001 x633002 x633003).bind fun bt636 => (if bt636.2 = 0 then (vinculumlaw10_PositionComplete.l0 k bt636.1 (bt636.1.length : Int) 0 x633000 x633001 x633002 x633003) else (some ((bt636.1.length : Int) == 0))))
def vinculumlaw10_PositionComplete.l0 : Nat → List (List Int) → Int → Int → Int → ByteArray → Int → List (S36) → Option (Bool)
  | 0, _, _, _, _, _, _, _ => none
  | k + 1, x3, x25, x26, x633000, x633001, x633002, x633003 => if x26 < x25 then (if 0 ≤ x26 then (if x26 < (x3.length : Int) then ((position_Valid.f k x633000 x633001 x633002 x633003 (rd_L5 x3 x26)).bind fun t643 => (if t643 = true then (if x26 > 0 then (if 0 ≤ (wrap64 (x26 - 1)) then (if (wrap64 (x26 - 1)) < (x3.length : Int) then ((position_Compare.f k (rd_L5 x3 (wrap64 (x26 - 1))) (rd_L5 x3 x26)).bind fun t646 => (if t646 ≥ 0 then (some false) else (vinculumlaw10_PositionComplete.l0 k x3 x25 (wrap64 (x26 + 1)) x633000 x633001 x633002 x633003))) else (none)) else (none)) else (vinculumlaw10_PositionComplete.l0 k x3 x25 (wrap64 (x26 + 1)) x633000 x633001 x633002 x633003)) else (some false))) else (none)) else (none)) else ((vinculumlaw10_rows.f k x633000 x633001 x633002 x633003).bind fun t640 => (if (x3.length : Int) = t640 then ((position_Count.f k x633000 x633001 x633002 x633003).bind fun t641 => (some (t641 == (x3.length : Int)))) else (some false)))
end
def vinculumlaw10_PositionComplete.f (k : Nat) (a0_0 : Int) (a0_1 : ByteArray) (a0_2 : Int) (l0_3 : List (S36)) : Option (Bool) := (vinculumlaw10_awake.f k).bind fun t633 => (if t633 = true then ((vinculumlaw10_few.f k a0_0 a0_1 a0_2 l0_3 ([] : List Int)).bind fun t634 => (vinculumlaw10_PositionComplete.j0 k (!t634) a0_0 a0_1 a0_2 l0_3)) else (vinculumlaw10_PositionComplete.j0 k true a0_0 a0_1 a0_2 l0_3))
theorem vinculumlaw10_PositionComplete.mono_l : ∀ k, (∀ y0 y1 y2 y3 y4, LeO (vinculumlaw10_PositionComplete.j0 k y0 y1 y2 y3 y4) (vinculumlaw10_PositionComplete.j0 (k + 1) y0 y1 y2 y3 y4)) ∧ (∀ y0 y1 y2 y3 y4 y5 y6, LeO (vinculumlaw10_PositionComplete.l0 k y0 y1 y2 y3 y4 y5 y6) (vinculumlaw10_PositionComplete.l0 (k + 1) y0 y1 y2 y3 y4 y5 y6))
  | 0 => ⟨fun _ _ _ _ _ r h => by simp [vinculumlaw10_PositionComplete.j0] at h, fun _ _ _ _ _ _ _ r h => by simp [vinculumlaw10_PositionComplete.l0] at h⟩
  | k + 1 => by
    obtain ⟨ih0, ih1⟩ := vinculumlaw10_PositionComplete.mono_l k
    refine ⟨?_, ?_⟩
    · intro y0 y1 y2 y3 y4
      unfold vinculumlaw10_PositionComplete.j0
      repeat' first
      | (with_reducible exact ih0 _ _ _ _ _)
      | (with_reducible exact ih1 _ _ _ _ _ _ _)
      | (with_reducible exact position_All.mono _ _ _ _ _)
      | (with_reducible exact position_Compare.mono _ _ _)
      | (with_reducible exact position_Count.mono _ _ _ _ _)
      | (with_reducible exact position_Valid.mono _ _ _ _ _ _)
      | (with_reducible exact vinculumlaw10_awake.mono _)
      | (with_reducible exact vinculumlaw10_few.mono _ _ _ _ _ _)
      | (with_reducible exact vinculumlaw10_rows.mono _ _ _ _ _)
      | (with_reducible exact LeO.refl _)
      | (with_reducible exact LeO.none _)
      | (with_reducible refine LeO.ite ?_ ?_)
      | (with_reducible refine LeO.bind ?_ (fun _ => ?_))
      | exact ih0 _ _ _ _ _
      | exact ih1 _ _ _ _ _ _ _
      | exact position_All.mono _ _ _ _ _
      | exact position_Compare.mono _ _ _
      | exact position_Count.mono _ _ _ _ _
      | exact position_Valid.mono _ _ _ _ _ _
      | exact vinculumlaw10_awake.mono _
      | exact vinculumlaw10_few.mono _ _ _ _ _ _
      | exact vinculumlaw10_rows.mono _ _ _ _ _
      | exact LeO.none _
      | refine LeO.ite ?_ ?_
      | refine LeO.bind ?_ (fun _ => ?_)
    · intro y0 y1 y2 y3 y4 y5 y6
      unfold vinculumlaw10_PositionComplete.l0
      repeat' first
      | (with_reducible exact ih0 _ _ _ _ _)
      | (with_reducible exact ih1 _ _ _ _ _ _ _)
      | (with_reducible exact position_All.mono _ _ _ _ _)
      | (with_reducible exact position_Compare.mono _ _ _)
      | (with_reducible exact position_Count.mono _ _ _ _ _)
      | (with_reducible exact position_Valid.mono _ _ _ _ _ _)
      | (with_reducible exact vinculumlaw10_awake.mono _)
      | (with_reducible exact vinculumlaw10_few.mono _ _ _ _ _ _)
      | (with_reducible exact vinculumlaw10_rows.mono _ _ _ _ _)
      | (with_reducible exact LeO.refl _)
      | (with_reducible exact LeO.none _)
      | (with_reducible refine LeO.ite ?_ ?_)
      | (with_reducible refine LeO.bind ?_ (fun _ => ?_))
      | exact ih0 _ _ _ _ _
      | exact ih1 _ _ _ _ _ _ _
      | exact position_All.mono _ _ _ _ _
      | exact position_Compare.mono _ _ _
      | exact position_Count.mono _ _ _ _ _
      | exact position_Valid.mono _ _ _ _ _ _
      | exact vinculumlaw10_awake.mono _
      | exact vinculumlaw10_few.mono _ _ _ _ _ _
      | exact vinculumlaw10_rows.mono _ _ _ _ _
      | exact LeO.none _
      | refine LeO.ite ?_ ?_
      | refine LeO.bind ?_ (fun _ => ?_)
theorem vinculumlaw10_PositionComplete.mono : ∀ a0 a1 a2 a3 k, LeO (vinculumlaw10_PositionComplete.f k a0 a1 a2 a3) (vinculumlaw10_PositionComplete.f (k + 1) a0 a1 a2 a3) := by
  intro a0 a1 a2 a3 k
  obtain ⟨ih0, ih1⟩ := vinculumlaw10_PositionComplete.mono_l k
  unfold vinculumlaw10_PositionComplete.f
  repeat' first
      | (with_reducible exact ih0 _ _ _ _ _)
      | (with_reducible exact ih1 _ _ _ _ _ _ _)
      | (with_reducible exact position_All.mono _ _ _ _ _)
      | (with_reducible exact position_Compare.mono _ _ _)
      | (with_reducible exact position_Count.mono _ _ _ _ _)
      | (with_reducible exact position_Valid.mono _ _ _ _ _ _)
      | (with_reducible exact vinculumlaw10_awake.mono _)
      | (with_reducible exact vinculumlaw10_few.mono _ _ _ _ _ _)
      | (with_reducible exact vinculumlaw10_rows.mono _ _ _ _ _)
      | (with_reducible exact LeO.refl _)
      | (with_reducible exact LeO.none _)
      | (with_reducible refine LeO.ite ?_ ?_)
      | (with_reducible refine LeO.bind ?_ (fun _ => ?_))
      | exact ih0 _ _ _ _ _
      | exact ih1 _ _ _ _ _ _ _
      | exact position_All.mono _ _ _ _ _
      | exact position_Compare.mono _ _ _
      | exact position_Count.mono _ _ _ _ _
      | exact position_Valid.mono _ _ _ _ _ _
      | exact vinculumlaw10_awake.mono _
      | exact vinculumlaw10_few.mono _ _ _ _ _ _
      | exact vinculumlaw10_rows.mono _ _ _ _ _
      | exact LeO.none _
      | refine LeO.ite ?_ ?_
      | refine LeO.bind ?_ (fun _ => ?_)
def vinculumlaw10_PositionComplete.T9 : Bool × List (List Nat × List Nat) := (true, [([], []), ([], []), ([], []), ([1, 2], [1, 2]), ([3], [3]), ([0, 4], [0, 4]), ([5], [5]), ([6, 5], [6]), ([7], [7]), ([8, 7], [7, 8]), ([9, 7, 7], [7, 9]), ([10], [10]), ([10], [10]), ([12, 10], [10, 12]), ([11, 13, 10], [10, 11, 13]), ([14, 10], [10, 14]), ([10], [10]), ([10], [10]), ([16, 17, 10], [10, 16, 17]), ([18, 10], [10, 18]), ([15, 19, 10, 10], [10, 15, 19]), ([20, 10], [10, 20]), ([10, 21, 7], [7, 10, 21]), ([7, 22], [7, 22])])
def vinculumlaw10_PositionComplete.B9 : List Nat := [0, 0, 0, 6, 14, 31, 63, 127, 255, 511, 1023, 2047, 2047, 6143, 16383, 32767, 2047, 2047, 198655, 460799, 1048575, 2097151, 4194303, 8388607]
theorem vinculumlaw10_PositionComplete.tab9 : rtab .any (opsOf Tryd.f12 9) = vinculumlaw10_PositionComplete.T9 := by kernel_rfl
theorem vinculumlaw10_PositionComplete.bits9 : waitsOk vinculumlaw10_PositionComplete.T9.2 vinculumlaw10_PositionComplete.B9 = true := by kernel_rfl
set_option maxHeartbeats 8000000 in
set_option maxRecDepth 100000 in
theorem vinculumlaw10_PositionComplete.calls (k : Nat) (a0_0 : Int) (a0_1 : ByteArray) (a0_2 : Int) (A0_3 : Option Addr) (c0_3 : Nat) (l0_3 : List (S36)) (r : Bool) (w : World) (hr0_3 : Kd.C k36 w A0_3 l0_3.length l0_3) (hc0_3 : l0_3.length ≤ c0_3) (h : vinculumlaw10_PositionComplete.f k a0_0 a0_1 a0_2 l0_3 = some r) :
    Calls Tryd.prog 12 #[.agg #[.int .i64 a0_0, .string a0_1, .int .i64 a0_2, .slice A0_3 l0_3.length c0_3]] w fun e w' => e = .returned (.bool r) ∧ Below w.heap.size w w' := by
  have hu36 := Tryd.underlying36
  have HR0_3 := Aside0.mk hr0_3
  have HC0_3 := Aside0.mk hc0_3
  clear hr0_3 hc0_3
  have HB := Aside0.mk (Below.refl w.heap.size w)
  have H : ((vinculumlaw10_awake.f k).bind fun t633 => (if t633 = true then ((vinculumlaw10_few.f k a0_0 a0_1 a0_2 l0_3 ([] : List Int)).bind fun t634 => (vinculumlaw10_PositionComplete.j0 k (!t634) a0_0 a0_1 a0_2 l0_3)) else (vinculumlaw10_PositionComplete.j0 k true a0_0 a0_1 a0_2 l0_3))) = some r := h
  clear h
  have HC2 := Aside0.mk H
  clear H
  go_enter Tryd.func12, Tryd.ntmps12
  go_upto_region 1 with (first | ((with_reducible refine gate_dst (N := 1) rfl ?_); (try (refine gate_guard (by rfl) ?_; dsimp only)); refine box_event ?hg (N := 1) ?hd (cs := #[.int .i64 a0_0, .string a0_1, .int .i64 a0_2, .slice A0_3 l0_3.length c0_3]) (t := 36) ?hr ?_; (case hd => rfl); (case hg => rfl); (case hr => first | (go_simp; done) | (go_simp; rfl)); intro gb632 hg w3 hbox hb; have n0_ := Aside0.mk (below_step (by repeat (first | (with_reducible first | exact HB.out | apply below_alloc | apply pw_below_drewN | apply below_drew1) | exact HB.out)) hb); have n1_ := Aside0.mk (hbox); have n2_ := Aside0.mk ((by rw [hg]; exact (below_size (by repeat (first | (with_reducible first | exact HB.out | apply below_alloc | apply pw_below_drewN | apply below_drew1) | exact HB.out))) : w.heap.size ≤ gb632)); have n3_ := Aside0.mk ((by rw [hg]; exact (below_size (by repeat (first | (with_reducible first | exact HB.out | apply below_alloc | apply pw_below_drewN | apply below_drew1) | exact HB.out))) : w.heap.size ≤ gb632)); clear HB; have HB := n0_; have BK632 := n1_; have GW632 := n2_; have GE632 := n3_; clear n0_ n1_ n2_ n3_; clear hb hbox hg))
  (try simp only [Act.put, List.setIfInBounds_toArray, List.set_cons_zero, List.set_cons_succ])
  go_cut [12] (fun v12 wc => ∃ (kq : Nat) (x12_1 : Bool), v12 = .bool x12_1 ∧ Aside0 (vinculumlaw10_PositionComplete.j0 kq x12_1 a0_0 a0_1 a0_2 l0_3 = some r) ∧ Aside0 (kq ≤ k) ∧ Aside0 (wc.heap[gb632]? = some (.cells #[.int .i64 a0_0, .string a0_1, .int .i64 a0_2, (.slice A0_3 l0_3.length c0_3)] 36 (0, 0))) ∧ Aside0 (Below w.heap.size w wc))
  case first =>
    have H := HC2.out
    clear HC2
    replace H := Option.bind_eq_some_iff.mp H
    obtain ⟨t633, A40, H⟩ := H
    replace H : (if t633 = true then ((vinculumlaw10_few.f k a0_0 a0_1 a0_2 l0_3 ([] : List Int)).bind fun t634 => (vinculumlaw10_PositionComplete.j0 k (!t634) a0_0 a0_1 a0_2 l0_3)) else (vinculumlaw10_PositionComplete.j0 k true a0_0 a0_1 a0_2 l0_3)) = some r := H
    have A4 := Aside0.mk A40
    clear A40
    by_cases c5 : t633 = true
    · subst c5
      have H1 : ((vinculumlaw10_few.f k a0_0 a0_1 a0_2 l0_3 ([] : List Int)).bind fun t634 => (vinculumlaw10_PositionComplete.j0 k (!t634) a0_0 a0_1 a0_2 l0_3)) = some r := by rw [if_pos rfl] at H; exact H
      clear H
      have H := H1
      clear H1
      replace H := Option.bind_eq_some_iff.mp H
      obtain ⟨t634, A60, H⟩ := H
      replace H : (vinculumlaw10_PositionComplete.j0 k (!t634) a0_0 a0_1 a0_2 l0_3) = some r := H
      have A6 := Aside0.mk A60
      clear A60
      have H' := Aside0.mk H
      clear H
      go_wp2_with (first | ((with_reducible refine gate_callee (f := 25) rfl ?_); refine goesL_ (some 6) rfl rfl Tryd.func25 (by kernel_rfl) rfl #[] rfl (by (try simp only [List.map_toArray, List.map_cons, List.map_nil]); first | done | rfl | (simp only [List.length_drop, List.length_take]; rfl)) ?_; (with_reducible refine (vinculumlaw10_awake.calls k  true _ A4.out).mono ?_); rintro e w7 ⟨rfl, hb⟩; refine ⟨_, rfl, ?_⟩; have n0_ := Aside0.mk (blk_below (g := gb632) (o := .cells #[.int .i64 a0_0, .string a0_1, .int .i64 a0_2, .slice A0_3 l0_3.length c0_3] 36 (0, 0)) (by (with_reducible repeat (first | refine blk_drewN ?_ _ | refine blk_drew ?_ | refine blk_alloc ?_ _)); exact BK632.out) hb); have n1_ := Aside0.mk (below_step (by repeat (first | (with_reducible first | exact HB.out | apply below_alloc | apply pw_below_drewN | apply below_drew1 | refine below_set ?_ GE632.out) | exact HB.out)) hb); clear BK632; clear HB; have BK632 := n0_; have HB := n1_; clear n0_ n1_; (try clear hb); (try clear hb2); (try clear hk); (try clear hi); have hcz8_0 : w7.cell? ⟨gb632, 0, none⟩ = some (.int .i64 a0_0) := (blk_cell BK632.out 0).trans rfl; have hcz8_1 : w7.cell? ⟨gb632, 1, none⟩ = some (.string a0_1) := (blk_cell BK632.out 1).trans rfl; have hcz8_2 : w7.cell? ⟨gb632, 2, none⟩ = some (.int .i64 a0_2) := (blk_cell BK632.out 2).trans rfl; have hcz8_3 : w7.cell? ⟨gb632, 3, none⟩ = some (.slice A0_3 l0_3.length c0_3) := (blk_cell BK632.out 3).trans rfl; have hfz8_0 := blk_frozen BK632.out 0; have hfz8_1 := blk_frozen BK632.out 1; have hfz8_2 := blk_frozen BK632.out 2; have hfz8_3 := blk_frozen BK632.out 3) | (go_at_call 26; (refine (vinculumlaw10_few.calls k a0_0 a0_1 a0_2 _ _ l0_3 _ _ ([] : List Int) t634 _ ?side1 ?side2 ?side3 ?side4 A6.out).mono ?_); (case side1 => repeat (first | exact (Kd.C_below HR0_3.out HB.out) | (with_reducible refine Kd.C_alloc ?_ _) | (with_reducible refine Kd.C_drewN ?_ _) | (with_reducible refine Kd.C_drew ?_))); (case side2 => exact HC0_3.out); (case side3 => exact Kd.C_nil _ _); (case side4 => exact Nat.le_refl _); rintro e w9 ⟨rfl, hb⟩; have n0_ := Aside0.mk (blk_below (g := gb632) (o := .cells #[.int .i64 a0_0, .string a0_1, .int .i64 a0_2, .slice A0_3 l0_3.length c0_3] 36 (0, 0)) (by (with_reducible repeat (first | refine blk_drewN ?_ _ | refine blk_drew ?_ | refine blk_alloc ?_ _)); exact BK632.out) hb); have n1_ := Aside0.mk (below_step (by repeat (first | (with_reducible first | exact HB.out | apply below_alloc | apply pw_below_drewN | apply below_drew1 | refine below_set ?_ GE632.out) | exact HB.out)) hb); clear BK632; clear HB; have BK632 := n0_; have HB := n1_; clear n0_ n1_; (try clear hb); (try clear hb2); (try clear hk); (try clear hi)))
      go_meet
      case rel => exact ⟨_, (!t634), (by first | rfl | (simp; done) | (simp [*]; done)), H', ⟨by first | omega | exact Nat.le_refl _⟩, ⟨by (with_reducible repeat (first | refine blk_drewN ?_ _ | refine blk_drew ?_ | refine blk_alloc ?_ _)); exact BK632.out⟩, ⟨by repeat (first | (with_reducible first | exact HB.out | apply below_alloc | apply pw_below_drewN | apply below_drew1 | refine below_set ?_ GE632.out) | exact HB.out)⟩⟩
    · replace c5 := Bool.eq_false_iff.mpr c5
      subst c5
      have H1 : (vinculumlaw10_PositionComplete.j0 k true a0_0 a0_1 a0_2 l0_3) = some r := by rw [if_neg (show ¬ (false = true) by decide)] at H; exact H
      clear H
      have H := H1
      clear H1
      have H' := Aside0.mk H
      clear H
      go_wp2_with (first | ((with_reducible refine gate_callee (f := 25) rfl ?_); refine goesL_ (some 6) rfl rfl Tryd.func25 (by kernel_rfl) rfl #[] rfl (by (try simp only [List.map_toArray, List.map_cons, List.map_nil]); first | done | rfl | (simp only [List.length_drop, List.length_take]; rfl)) ?_; (with_reducible refine (vinculumlaw10_awake.calls k  false _ A4.out).mono ?_); rintro e w10 ⟨rfl, hb⟩; refine ⟨_, rfl, ?_⟩; have n0_ := Aside0.mk (blk_below (g := gb632) (o := .cells #[.int .i64 a0_0, .string a0_1, .int .i64 a0_2, .slice A0_3 l0_3.length c0_3] 36 (0, 0)) (by (with_reducible repeat (first | refine blk_drewN ?_ _ | refine blk_drew ?_ | refine blk_alloc ?_ _)); exact BK632.out) hb); have n1_ := Aside0.mk (below_step (by repeat (first | (with_reducible first | exact HB.out | apply below_alloc | apply pw_below_drewN | apply below_drew1 | refine below_set ?_ GE632.out) | exact HB.out)) hb); clear BK632; clear HB; have BK632 := n0_; have HB := n1_; clear n0_ n1_; (try clear hb); (try clear hb2); (try clear hk); (try clear hi)))
      go_meet
      case rel => exact ⟨_, (true), (by first | rfl | (simp; done) | (simp [*]; done)), H', ⟨by first | omega | exact Nat.le_refl _⟩, ⟨by (with_reducible repeat (first | refine blk_drewN ?_ _ | refine blk_drew ?_ | refine blk_alloc ?_ _)); exact BK632.out⟩, ⟨by repeat (first | (with_reducible first | exact HB.out | apply below_alloc | apply pw_below_drewN | apply below_drew1 | refine below_set ?_ GE632.out) | exact HB.out)⟩⟩
  case rest =>
    clear HC2
    try clear c1
    try clear c2
    try clear p2
    try clear c5
    try clear hcz8_0
    try clear hcz8_1
    try clear hcz8_2
    try clear hcz8_3
    try clear hfz8_0
    try clear hfz8_1
    try clear hfz8_2
    try clear hfz8_3
    obtain ⟨kq, x12_1, rfl, HA, HJ1, BK632, HB⟩ := hcut
    cases kq with
    | zero => exact absurd HA.out (by simp [vinculumlaw10_PositionComplete.j0])
    | succ kj1 =>
      have H := HA.out
      clear HA
      simp only [vinculumlaw10_PositionComplete.j0] at H
      by_cases c11 : x12_1 = true
      · subst c11
        have H1 : ((vinculumlaw10_awake.f kj1).bind fun t635 => (some t635)) = some r := by rw [if_pos rfl] at H; exact H
        clear H
        have H := H1
        clear H1
        replace H := Option.bind_eq_some_iff.mp H
        obtain ⟨t635, A120, H⟩ := H
        replace H : (some t635) = some r := H
        have A12 := Aside0.mk A120
        clear A120
        obtain rfl := Option.some.inj H
        go_wp2_with (first | ((with_reducible refine gate_callee (f := 25) rfl ?_); refine goesL_ (some 13) rfl rfl Tryd.func25 (by kernel_rfl) rfl #[] rfl (by (try simp only [List.map_toArray, List.map_cons, List.map_nil]); first | done | rfl | (simp only [List.length_drop, List.length_take]; rfl)) ?_; (with_reducible refine (vinculumlaw10_awake.calls kj1  t635 _ A12.out).mono ?_); rintro e w13 ⟨rfl, hb⟩; refine ⟨_, rfl, ?_⟩; have n0_ := Aside0.mk (blk_below (g := gb632) (o := .cells #[.int .i64 a0_0, .string a0_1, .int .i64 a0_2, .slice A0_3 l0_3.length c0_3] 36 (0, 0)) (by (with_reducible repeat (first | refine blk_drewN ?_ _ | refine blk_drew ?_ | refine blk_alloc ?_ _)); exact BK632.out) hb); have n1_ := Aside0.mk (below_step (by repeat (first | (with_reducible first | exact HB.out | apply below_alloc | apply pw_below_drewN | apply below_drew1 | refine below_set ?_ GE632.out) | exact HB.out)) hb); clear BK632; clear HB; have BK632 := n0_; have HB := n1_; clear n0_ n1_; (try clear hb); (try clear hb2); (try clear hk); (try clear hi)))
        go_ret
        exact ⟨by first | rfl | (simp [errW_none, errW_some] <;> rfl) | (simp [*, errW_none, errW_some] <;> rfl), by repeat (first | (with_reducible first | exact HB.out | apply below_alloc | apply pw_below_drewN | apply below_drew1 | refine below_set ?_ GE632.out) | exact HB.out)⟩
      · replace c11 := Bool.eq_false_iff.mpr c11
        subst c11
        have H1 : ((position_All.f kj1 a0_0 a0_1 a0_2 l0_3).bind fun bt636 => (if bt636.2 = 0 then (vinculumlaw10_PositionComplete.l0 kj1 bt636.1 (bt636.1.length : Int) 0 a0_0 a0_1 a0_2 l0_3) else (some ((bt636.1.length : Int) == 0)))) = some r := by rw [if_neg (show ¬ (false = true) by decide)] at H; exact H
        clear H
        have H := H1
        clear H1
        replace H := Option.bind_eq_some_iff.mp H
        obtain ⟨⟨t636, t639⟩, A140, H⟩ := H
        replace H : (if t639 = 0 then (vinculumlaw10_PositionComplete.l0 kj1 t636 (t636.length : Int) 0 a0_0 a0_1 a0_2 l0_3) else (some ((t636.length : Int) == 0))) = some r := H
        have A14 := Aside0.mk A140
        clear A140
        by_cases c15 : t639 = 0
        · rw [if_pos c15] at H
          have c15b0 : (t639 == 0) = true := beq_iff_eq.mpr c15
          have c15b1 : (t639 != 0) = false := bne_eq_false_iff_eq.mpr c15
          clear c15
          have H' := Aside0.mk H
          clear H
          have hcz16_0 : wc.cell? ⟨gb632, 0, none⟩ = some (.int .i64 a0_0) := (blk_cell BK632.out 0).trans rfl
          have hcz16_1 : wc.cell? ⟨gb632, 1, none⟩ = some (.string a0_1) := (blk_cell BK632.out 1).trans rfl
          have hcz16_2 : wc.cell? ⟨gb632, 2, none⟩ = some (.int .i64 a0_2) := (blk_cell BK632.out 2).trans rfl
          have hcz16_3 : wc.cell? ⟨gb632, 3, none⟩ = some (.slice A0_3 l0_3.length c0_3) := (blk_cell BK632.out 3).trans rfl
          have hfz16_0 := blk_frozen BK632.out 0
          have hfz16_1 := blk_frozen BK632.out 1
          have hfz16_2 := blk_frozen BK632.out 2
          have hfz16_3 := blk_frozen BK632.out 3
          go_wp2_with (first | ((with_reducible refine gate_callee (f := 37) rfl ?_); refine goesL_ (some 16) rfl rfl Tryd.func37 (by kernel_rfl) rfl #[.agg #[.int .i64 a0_0, .string a0_1, .int .i64 a0_2, .slice A0_3 l0_3.length c0_3]] rfl (by (try simp only [List.map_toArray, List.map_cons, List.map_nil]); first | done | rfl | (simp only [List.length_drop, List.length_take]; rfl)) ?_; (with_reducible refine (position_All.calls kj1 a0_0 a0_1 a0_2 _ _ l0_3 t636 t639 _ ?side1 ?side2 A14.out).mono ?_); (case side1 => repeat (first | exact (Kd.C_below HR0_3.out HB.out) | (with_reducible refine Kd.C_alloc ?_ _) | (with_reducible refine Kd.C_drewN ?_ _) | (with_reducible refine Kd.C_drew ?_))); (case side2 => exact HC0_3.out); rintro e w17 ⟨v637, rfl, ho0, hb⟩; refine ⟨_, rfl, ?_⟩; have n0_ := Aside0.mk (Kd.N_lower (Kd.N_mono (ok' := fun k_ => k_ ≠ gb632) ho0 (fun k_ hk_ => (Kd.freshB (g := gb632) (o := .cells #[.int .i64 a0_0, .string a0_1, .int .i64 a0_2, .slice A0_3 l0_3.length c0_3] 36 (0, 0)) (by (with_reducible repeat (first | refine blk_drewN ?_ _ | refine blk_drew ?_ | refine blk_alloc ?_ _)); exact BK632.out) k_ hk_))) (below_size (by repeat (first | (with_reducible first | exact HB.out | apply below_alloc | apply pw_below_drewN | apply below_drew1 | refine below_set ?_ GE632.out) | exact HB.out)))); have n1_ := Aside0.mk (blk_below (g := gb632) (o := .cells #[.int .i64 a0_0, .string a0_1, .int .i64 a0_2, .slice A0_3 l0_3.length c0_3] 36 (0, 0)) (by (with_reducible repeat (first | refine blk_drewN ?_ _ | refine blk_drew ?_ | refine blk_alloc ?_ _)); exact BK632.out) hb); have n2_ := Aside0.mk (below_step (by repeat (first | (with_reducible first | exact HB.out | apply below_alloc | apply pw_below_drewN | apply below_drew1 | refine below_set ?_ GE632.out) | exact HB.out)) hb); clear BK632; clear HB; have HO638 := n0_; have BK632 := n1_; have HB := n2_; clear n0_ n1_ n2_; (try clear hb); (try clear hb2); (try clear hk); (try clear hi); (try clear ho0); obtain ⟨Ao18, co18, eo18⟩ := Kd.N_slice HO638.out; subst eo18))
          go_loopg [26] kj1 (fun kq v26 w' => ∃ (x26_2 : Int), v26 = .int .i64 x26_2 ∧ Aside0 (vinculumlaw10_PositionComplete.l0 kq t636 (t636.length : Int) x26_2 a0_0 a0_1 a0_2 l0_3 = some r) ∧ Aside0 (kq ≤ kj1) ∧ Aside0 (Kd.N (Kd.slice 3 (Kd.int .i64)) 26 w' w.heap.size (fun k_ => k_ ≠ gb632) (.slice Ao18 t636.length co18) t636) ∧ Aside0 (w'.heap[gb632]? = some (.cells #[.int .i64 a0_0, .string a0_1, .int .i64 a0_2, (.slice A0_3 l0_3.length c0_3)] 36 (0, 0))) ∧ Aside0 (Below w.heap.size w w'))
          case atStart => exact ⟨(0), (by first | rfl | (simp; done) | (simp [*]; done)), H', ⟨Nat.le_refl _⟩, ⟨by (with_reducible repeat (first | apply Kd.N_alloc | apply Kd.N_drewN | apply Kd.N_drew)); exact HO638.out⟩, ⟨by (with_reducible repeat (first | refine blk_drewN ?_ _ | refine blk_drew ?_ | refine blk_alloc ?_ _)); exact BK632.out⟩, ⟨by repeat (first | (with_reducible first | exact HB.out | apply below_alloc | apply pw_below_drewN | apply below_drew1 | refine below_set ?_ GE632.out) | exact HB.out)⟩⟩
          case round =>
            clear H'
            try clear c1
            try clear c2
            try clear p2
            try clear c3
            try clear c5
            try clear c11
            try clear c12
            try clear c15
            try clear c15b0
            try clear c15b1
            try clear hcz16_0
            try clear hcz16_1
            try clear hcz16_2
            try clear hcz16_3
            try clear hcz8_0
            try clear hcz8_1
            try clear hcz8_2
            try clear hcz8_3
            try clear hfz16_0
            try clear hfz16_1
            try clear hfz16_2
            try clear hfz16_3
            try clear hfz8_0
            try clear hfz8_1
            try clear hfz8_2
            try clear hfz8_3
            try clear p2
            obtain ⟨x26_2, rfl, HA, HK2, HO_3, BK632, HB⟩ := hrel
            cases gk with
            | zero => exact absurd HA.out (by simp [vinculumlaw10_PositionComplete.l0])
            | succ k2 =>
              have H := HA.out
              clear HA
              simp only [vinculumlaw10_PositionComplete.l0] at H
              by_cases c19 : x26_2 < (t636.length : Int)
              · rw [if_pos c19] at H
                have c19b0 : decide (x26_2 < (t636.length : Int)) = true := decide_eq_true c19
                clear c19
                by_cases c20 : 0 ≤ x26_2
                · rw [if_pos c20] at H
                  have c20b0 : decide (0 ≤ x26_2) = true := decide_eq_true c20
                  clear c20
                  by_cases c21 : x26_2 < (t636.length : Int)
                  · rw [if_pos c21] at H
                    have c21b0 : decide (x26_2 < (t636.length : Int)) = true := decide_eq_true c21
                    clear c21
                    replace H := Option.bind_eq_some_iff.mp H
                    obtain ⟨t643, A220, H⟩ := H
                    replace H : (if t643 = true then (if x26_2 > 0 then (if 0 ≤ (wrap64 (x26_2 - 1)) then (if (wrap64 (x26_2 - 1)) < (t636.length : Int) then ((position_Compare.f k2 (rd_L5 t636 (wrap64 (x26_2 - 1))) (rd_L5 t636 x26_2)).bind fun t646 => (if t646 ≥ 0 then (some false) else (vinculumlaw10_PositionComplete.l0 k2 t636 (t636.length : Int) (wrap64 (x26_2 + 1)) a0_0 a0_1 a0_2 l0_3))) else (none)) else (none)) else (vinculumlaw10_PositionComplete.l0 k2 t636 (t636.length : Int) (wrap64 (x26_2 + 1)) a0_0 a0_1 a0_2 l0_3)) else (some false)) = some r := H
                    have A22 := Aside0.mk A220
                    clear A220
                    by_cases c23 : t643 = true
                    · subst c23
                      have H1 : (if x26_2 > 0 then (if 0 ≤ (wrap64 (x26_2 - 1)) then (if (wrap64 (x26_2 - 1)) < (t636.length : Int) then ((position_Compare.f k2 (rd_L5 t636 (wrap64 (x26_2 - 1))) (rd_L5 t636 x26_2)).bind fun t646 => (if t646 ≥ 0 then (some false) else (vinculumlaw10_PositionComplete.l0 k2 t636 (t636.length : Int) (wrap64 (x26_2 + 1)) a0_0 a0_1 a0_2 l0_3))) else (none)) else (none)) else (vinculumlaw10_PositionComplete.l0 k2 t636 (t636.length : Int) (wrap64 (x26_2 + 1)) a0_0 a0_1 a0_2 l0_3)) = some r := by rw [if_pos rfl] at H; exact H
                      clear H
                      have H := H1
                      clear H1
                      by_cases c24 : x26_2 > 0
                      · rw [if_pos c24] at H
                        have c24b0 : decide (0 < x26_2) = true := decide_eq_true c24
                        clear c24
                        obtain ⟨ji25, hji25⟩ : ∃ j_ : Int, (wrap64 (x26_2 - 1)) = j_ := ⟨_, rfl⟩
                        replace H : (if 0 ≤ (ji25) then (if (ji25) < (t636.length : Int) then ((position_Compare.f k2 (rd_L5 t636 (ji25)) (rd_L5 t636 x26_2)).bind fun t646 => (if t646 ≥ 0 then (some false) else (vinculumlaw10_PositionComplete.l0 k2 t636 (t636.length : Int) (wrap64 (x26_2 + 1)) a0_0 a0_1 a0_2 l0_3))) else (none)) else (none)) = some r := by first | (rw [hji25] at H; exact H) | (simp only [hji25] at H ⊢; exact H)
                        (try rw [hji25] at A22)
                        have hji25w : (IntKind.i64.wrap (x26_2 - 1)) = ji25 := (i64_w _).trans hji25
                        by_cases c26 : 0 ≤ (ji25)
                        · rw [if_pos c26] at H
                          have c26b0 : decide (0 ≤ (ji25)) = true := decide_eq_true c26
                          clear c26
                          by_cases c27 : (ji25) < (t636.length : Int)
                          · rw [if_pos c27] at H
                            have c27b0 : decide ((ji25) < (t636.length : Int)) = true := decide_eq_true c27
                            clear c27
                            replace H := Option.bind_eq_some_iff.mp H
                            obtain ⟨t646, A280, H⟩ := H
                            replace H : (if t646 ≥ 0 then (some false) else (vinculumlaw10_PositionComplete.l0 k2 t636 (t636.length : Int) (wrap64 (x26_2 + 1)) a0_0 a0_1 a0_2 l0_3)) = some r := H
                            have A28 := Aside0.mk A280
                            clear A280
                            by_cases c29 : t646 ≥ 0
                            · rw [if_pos c29] at H
                              have c29b0 : decide (0 ≤ t646) = true := decide_eq_true c29
                              clear c29
                              obtain rfl := Option.some.inj H
                              try go_wp2
                              have n0_ := Aside0.mk (Kd.N_drew HO_3.out)
                              have n1_ := Aside0.mk (blk_drew BK632.out)
                              have n2_ := Aside0.mk (below_drew1 HB.out)
                              clear HO_3
                              clear BK632
                              clear HB
                              have HO_3 := n0_
                              have BK632 := n1_
                              have HB := n2_
                              clear n0_ n1_ n2_
                              have p642 : 0 ≤ (x26_2 : Int) := of_decide_eq_true (by first | (with_reducible assumption) | assumption)
                              have q642 : x26_2 < (t636.length : Int) := of_decide_eq_true (by first | (with_reducible assumption) | assumption)
                              obtain ⟨ad642, A642_0, c642_0, e642, hx642_0, hl642_0, hi642_0⟩ := at_L5 (Kd.N_reads' HO_3.out).2.2 x26_2 p642 q642
                              cases e642
                              obtain ⟨ce642, hce642, hMe642, hcc642⟩ := Kd.N_get HO_3.out [] x26_2 p642 (by first | exact q642 | exact of_decide_eq_true (by first | (with_reducible assumption) | assumption) | (have e_ := (Kd.N_reads' HO_3.out).1; omega))
                              obtain ⟨ua642_0, uc642_0, rfl, ul642_0, ge642_0⟩ := Kd.FK_slice_open hMe642
                              have hv642_0 := hcc642 0 _ rfl
                              rw [Nat.add_zero, show ((Kd.slice 3 (Kd.int .i64))).sz = 1 from rfl, Nat.mul_one] at hv642_0
                              replace hv642_0 := Option.some.inj (hv642_0.symm.trans hx642_0)
                              injection hv642_0 with hva_ hvn_ hvc_
                              rw [hva_] at ge642_0
                              rw [hvc_] at ul642_0
                              have HL642_0 := Aside0.mk (show Kd.V (Kd.int .i64) 3 _ w.heap.size _ _ (rd_L5 t636 x26_2) from Kd.V_mk ul642_0 ge642_0)
                              clear hva_ hvn_ hvc_ ge642_0 ul642_0
                              clear hcc642 hce642
                              have HR642_0 := Aside0.mk hi642_0
                              have HC642_0 := Aside0.mk hl642_0
                              clear hi642_0 hl642_0
                              replace p642 := eq_true p642
                              replace q642 := eq_true q642
                              have p644 : 0 ≤ ((ji25) : Int) := of_decide_eq_true (by first | (with_reducible assumption) | assumption)
                              have q644 : (ji25) < (t636.length : Int) := of_decide_eq_true (by first | (with_reducible assumption) | assumption)
                              obtain ⟨ad644, A644_0, c644_0, e644, hx644_0, hl644_0, hi644_0⟩ := at_L5 (Kd.N_reads' HO_3.out).2.2 (ji25) p644 q644
                              obtain rfl : ad642 = ad644 := (by injection e644)
                              obtain ⟨ce644, hce644, hMe644, hcc644⟩ := Kd.N_get HO_3.out [] (ji25) p644 (by first | exact q644 | exact of_decide_eq_true (by first | (with_reducible assumption) | assumption) | (have e_ := (Kd.N_reads' HO_3.out).1; omega))
                              obtain ⟨ua644_0, uc644_0, rfl, ul644_0, ge644_0⟩ := Kd.FK_slice_open hMe644
                              have hv644_0 := hcc644 0 _ rfl
                              rw [Nat.add_zero, show ((Kd.slice 3 (Kd.int .i64))).sz = 1 from rfl, Nat.mul_one] at hv644_0
                              replace hv644_0 := Option.some.inj (hv644_0.symm.trans hx644_0)
                              injection hv644_0 with hva_ hvn_ hvc_
                              rw [hva_] at ge644_0
                              rw [hvc_] at ul644_0
                              have HL644_0 := Aside0.mk (show Kd.V (Kd.int .i64) 3 _ w.heap.size _ _ (rd_L5 t636 (ji25)) from Kd.V_mk ul644_0 ge644_0)
                              clear hva_ hvn_ hvc_ ge644_0 ul644_0
                              clear hcc644 hce644
                              have HR644_0 := Aside0.mk hi644_0
                              have HC644_0 := Aside0.mk hl644_0
                              clear hi644_0 hl644_0
                              replace p644 := eq_true p644
                              replace q644 := eq_true q644
                              have p645 : 0 ≤ (x26_2 : Int) := of_decide_eq_true (by first | (with_reducible assumption) | assumption)
                              have q645 : x26_2 < (t636.length : Int) := of_decide_eq_true (by first | (with_reducible assumption) | assumption)
                              obtain ⟨ad645, A645_0, c645_0, e645, hx645_0, hl645_0, hi645_0⟩ := at_L5 (Kd.N_reads' HO_3.out).2.2 x26_2 p645 q645
                              obtain rfl : ad642 = ad645 := (by injection e645)
                              obtain ⟨ce645, hce645, hMe645, hcc645⟩ := Kd.N_get HO_3.out [] x26_2 p645 (by first | exact q645 | exact of_decide_eq_true (by first | (with_reducible assumption) | assumption) | (have e_ := (Kd.N_reads' HO_3.out).1; omega))
                              obtain ⟨ua645_0, uc645_0, rfl, ul645_0, ge645_0⟩ := Kd.FK_slice_open hMe645
                              have hv645_0 := hcc645 0 _ rfl
                              rw [Nat.add_zero, show ((Kd.slice 3 (Kd.int .i64))).sz = 1 from rfl, Nat.mul_one] at hv645_0
                              replace hv645_0 := Option.some.inj (hv645_0.symm.trans hx645_0)
                              injection hv645_0 with hva_ hvn_ hvc_
                              rw [hva_] at ge645_0
                              rw [hvc_] at ul645_0
                              have HL645_0 := Aside0.mk (show Kd.V (Kd.int .i64) 3 _ w.heap.size _ _ (rd_L5 t636 x26_2) from Kd.V_mk ul645_0 ge645_0)
                              clear hva_ hvn_ hvc_ ge645_0 ul645_0
                              clear hcc645 hce645
                              have HR645_0 := Aside0.mk hi645_0
                              have HC645_0 := Aside0.mk hl645_0
                              clear hi645_0 hl645_0
                              replace p645 := eq_true p645
                              replace q645 := eq_true q645
                              have HE645 : Aside0 (A645_0 = A642_0 ∧ c645_0 = c642_0) := ⟨by have he_ := Option.some.inj (hx645_0.symm.trans hx642_0); injection he_ with f1_ f2_ f3_; exact ⟨f1_, f3_⟩⟩
                              refine start_ (n := 24) (S := fun w' => w'.cell? ⟨gb632, 0, none⟩ = some (.int .i64 a0_0) ∧ w'.cell? ⟨gb632, 1, none⟩ = some (.string a0_1) ∧ w'.cell? ⟨gb632, 2, none⟩ = some (.int .i64 a0_2) ∧ w'.cell? ⟨gb632, 3, none⟩ = some (.slice A0_3 l0_3.length c0_3) ∧ w'.cell? (ad642.add (x26_2).toNat) = some (.slice A642_0 (rd_L5 t636 x26_2).length c642_0) ∧ w'.cell? (ad642.add ((ji25)).toNat) = some (.slice A644_0 (rd_L5 t636 (ji25)).length c644_0) ∧ w'.cell? (ad642.add (x26_2).toNat) = some (.slice A645_0 (rd_L5 t636 x26_2).length c645_0)) (ds := []) #[false, false, false, false, false, false, false, false, false, false, false, false, false, false, false, false, false, false, false, false, false, false, false, false] (by kernel_rfl) rfl rfl ⟨(blk_cell BK632.out 0).trans rfl, (blk_cell BK632.out 1).trans rfl, (blk_cell BK632.out 2).trans rfl, (blk_cell BK632.out 3).trans rfl, hx642_0, hx644_0, hx645_0⟩ (fun hHeld => ?_); refine with_tabW vinculumlaw10_PositionComplete.tab9 vinculumlaw10_PositionComplete.bits9 (fun HT_ HW_ => ?_)
                              generalize wr.drew = w30 at HO_3 BK632 HB HL642_0 HL644_0 HL645_0 HR642_0 HR644_0 HR645_0 hx642_0 hx644_0 hx645_0 hHeld ⊢
                              refine pure_ (i := 1) (N := some 30) (v := ?_) (a' := ?_) #[false, true, false, false, false, false, false, false, false, false, false, false, false, false, false, false, false, false, false, false, false, false, false, false] rfl rfl (any_of HT_.out (by kernel_rfl)) (fun _ _ _ h => h) (Or.inl ⟨by rfl, ?_⟩) ?_ ?_
                              rotate_left
                              · intro w'
                                go_simp
                                first | with_reducible rfl | (rw [own_len_N ?hl_ ?hu_]; (case hl_ => assumption); (case hu_ => kernel_rfl); (try with_reducible rfl)) | (rw [own_len_R ?hl_ ?hu_]; (case hl_ => assumption); (case hu_ => kernel_rfl); (try with_reducible rfl))
                              rotate_left
                              · simp only [Act.put, List.setIfInBounds_toArray, List.set_cons_zero, List.set_cons_succ, i64_w, i32_w]
                                rfl
                              refine pure_ (i := 2) (N := some 31) (v := ?_) (a' := ?_) #[false, true, true, false, false, false, false, false, false, false, false, false, false, false, false, false, false, false, false, false, false, false, false, false] rfl rfl (any_of HT_.out (by kernel_rfl)) (fun _ _ _ h => h) (Or.inl ⟨by rfl, ?_⟩) ?_ ?_
                              rotate_left
                              · intro w'
                                go_simp
                                first | with_reducible rfl | (rw [own_len_N ?hl_ ?hu_]; (case hl_ => assumption); (case hu_ => kernel_rfl); (try with_reducible rfl)) | (rw [own_len_R ?hl_ ?hu_]; (case hl_ => assumption); (case hu_ => kernel_rfl); (try with_reducible rfl))
                              rotate_left
                              · simp only [Act.put, List.setIfInBounds_toArray, List.set_cons_zero, List.set_cons_succ, i64_w, i32_w]
                                rfl
                              refine pure_ (i := 3) (N := some 32) (v := ?_) (a' := ?_) #[false, true, true, true, false, false, false, false, false, false, false, false, false, false, false, false, false, false, false, false, false, false, false, false] rfl rfl (any_of HT_.out (by kernel_rfl)) (fun _ _ _ h => h) (Or.inl ⟨by rfl, ?_⟩) ?_ ?_
                              rotate_left
                              · intro w'
                                go_simp
                                first | with_reducible rfl | (rw [own_len_N ?hl_ ?hu_]; (case hl_ => assumption); (case hu_ => kernel_rfl); (try with_reducible rfl)) | (rw [own_len_R ?hl_ ?hu_]; (case hl_ => assumption); (case hu_ => kernel_rfl); (try with_reducible rfl))
                              rotate_left
                              · simp only [Act.put, List.setIfInBounds_toArray, List.set_cons_zero, List.set_cons_succ, i64_w, i32_w]
                                rfl
                              refine take_ (i := 0) (N := some 29) (v := ?_) (a' := ?_) #[true, true, true, true, false, false, false, false, false, false, false, false, false, false, false, false, false, false, false, false, false, false, false, false] rfl rfl (take_ofW HT_.out HW_.out (by kernel_rfl)) (fun _ _ _ h => h) (Or.inl ⟨by rfl, ?_⟩) hHeld ?_ ?_
                              rotate_left
                              · rintro w' ⟨s0, s1, s2, s3, s4, s5, s6⟩
                                go_simp
                                with_reducible rfl
                              rotate_left
                              · simp only [Act.put, List.setIfInBounds_toArray, List.set_cons_zero, List.set_cons_succ, i64_w, i32_w]
                                rfl
                              refine take_ (i := 4) (N := some 33) (v := ?_) (a' := ?_) #[true, true, true, true, true, false, false, false, false, false, false, false, false, false, false, false, false, false, false, false, false, false, false, false] rfl rfl (take_ofW HT_.out HW_.out (by kernel_rfl)) (fun _ _ _ h => h) (Or.inl ⟨by rfl, ?_⟩) hHeld ?_ ?_
                              rotate_left
                              · rintro w' ⟨s0, s1, s2, s3, s4, s5, s6⟩
                                go_simp
                                with_reducible rfl
                              rotate_left
                              · simp only [Act.put, List.setIfInBounds_toArray, List.set_cons_zero, List.set_cons_succ, i64_w, i32_w]
                                rfl
                              refine one_ (i := 5) (N := some 34) #[true, true, true, true, true, true, false, false, false, false, false, false, false, false, false, false, false, false, false, false, false, false, false, false] rfl rfl (one_of HT_.out (by kernel_rfl)) (by decide) (fun K hK => ?_)
                              refine goes_ Tryd.func41 (by kernel_rfl) rfl #[.agg #[.int .i64 a0_0, .string a0_1, .int .i64 a0_2, .slice A0_3 l0_3.length c0_3], .slice A642_0 (rd_L5 t636 x26_2).length c642_0] (by rfl) rfl rfl (by (try simp only [List.map_toArray, List.map_cons, List.map_nil]); first | done | rfl | (simp only [List.length_drop, List.length_take]; rfl)) ?_
                              with_reducible refine (position_Valid.calls k2 a0_0 a0_1 a0_2 _ _ l0_3 _ _ (rd_L5 t636 x26_2) true _ ?side1 ?side2 ?side3 ?side4 A22.out).mono ?_
                              (case side1 => repeat (first | exact (Kd.C_below HR0_3.out HB.out) | (with_reducible refine Kd.C_alloc ?_ _) | (with_reducible refine Kd.C_drewN ?_ _) | (with_reducible refine Kd.C_drew ?_)))
                              (case side2 => exact HC0_3.out)
                              (case side3 => repeat (first | exact (by repeat (first | (with_reducible exact HR642_0.out) | (with_reducible refine Kd.C_alloc ?_ _) | (with_reducible refine Kd.C_drewN ?_ _) | (with_reducible refine Kd.C_drew ?_) | exact HR642_0.out)) | (with_reducible refine Kd.C_alloc ?_ _) | (with_reducible refine Kd.C_drewN ?_ _) | (with_reducible refine Kd.C_drew ?_)))
                              (case side4 => exact HC642_0.out)
                              rintro e w31 ⟨rfl, hb⟩
                              have HS4_ := (hb.cell (World.block_lt_of_cell? _ _ (hHeld.2.2.2.2.1))).trans (hHeld.2.2.2.2.1)
                              have HS5_ := (hb.cell (World.block_lt_of_cell? _ _ (hHeld.2.2.2.2.2.1))).trans (hHeld.2.2.2.2.2.1)
                              have HS6_ := (hb.cell (World.block_lt_of_cell? _ _ (hHeld.2.2.2.2.2.2))).trans (hHeld.2.2.2.2.2.2)
                              refine ⟨_, rfl, ?_⟩
                              have n0_ := Aside0.mk (Kd.N_below (by (with_reducible repeat (first | apply Kd.N_alloc | apply Kd.N_drewN | apply Kd.N_drew)); exact HO_3.out) hb)
                              have n1_ := Aside0.mk (Kd.V_below (by (with_reducible repeat (first | apply Kd.V_alloc | apply Kd.V_drewN | apply Kd.V_drew)); exact HL642_0.out) hb)
                              have n2_ := Aside0.mk (blk_below (g := gb632) (o := .cells #[.int .i64 a0_0, .string a0_1, .int .i64 a0_2, .slice A0_3 l0_3.length c0_3] 36 (0, 0)) (by (with_reducible repeat (first | refine blk_drewN ?_ _ | refine blk_drew ?_ | refine blk_alloc ?_ _)); exact BK632.out) hb)
                              have n3_ := Aside0.mk (Kd.C_below (by repeat (first | (with_reducible exact HR642_0.out) | (with_reducible refine Kd.C_alloc ?_ _) | (with_reducible refine Kd.C_drewN ?_ _) | (with_reducible refine Kd.C_drew ?_) | exact HR642_0.out)) hb)
                              have n4_ := Aside0.mk (below_step (by repeat (first | (with_reducible first | exact HB.out | apply below_alloc | apply pw_below_drewN | apply below_drew1 | refine below_set ?_ GE632.out) | exact HB.out)) hb)
                              clear HO_3
                              clear HL642_0
                              clear BK632
                              clear HR642_0
                              clear HB
                              have HO_3 := n0_
                              have HL642_0 := n1_
                              have BK632 := n2_
                              have HR642_0 := n3_
                              have HB := n4_
                              clear n0_ n1_ n2_ n3_ n4_
                              (try replace HR642_0 := Aside0.mk (Kd.C_below HR642_0.out hb))
                              (try replace HR644_0 := Aside0.mk (Kd.C_below HR644_0.out hb))
                              (try replace HR645_0 := Aside0.mk (Kd.C_below HR645_0.out hb))
                              (try clear hb)
                              (try clear hb2)
                              (try clear hk)
                              (try clear hi)
                              refine hK.out _ _ ⟨(blk_cell BK632.out 0).trans rfl, (blk_cell BK632.out 1).trans rfl, (blk_cell BK632.out 2).trans rfl, (blk_cell BK632.out 3).trans rfl, HS4_, HS5_, HS6_⟩ (fun hHeld => ?_)
                              clear hK K
                              refine norm_ (a' := ?_) ?_ ?_
                              rotate_left
                              · show Act.put _ (some 34) _ = _
                                simp only [Act.put, List.setIfInBounds_toArray, List.set_cons_zero, List.set_cons_succ, i64_w, i32_w]
                                rfl
                              refine pure_ (i := 6) (N := some 35) (v := ?_) (a' := ?_) #[true, true, true, true, true, true, true, false, false, false, false, false, false, false, false, false, false, false, false, false, false, false, false, false] rfl rfl (any_of HT_.out (by kernel_rfl)) (fun _ _ _ h => h) (Or.inl ⟨by rfl, ?_⟩) ?_ ?_
                              rotate_left
                              · intro w'
                                go_simp
                                first | with_reducible rfl | (rw [own_len_N ?hl_ ?hu_]; (case hl_ => assumption); (case hu_ => kernel_rfl); (try with_reducible rfl)) | (rw [own_len_R ?hl_ ?hu_]; (case hl_ => assumption); (case hu_ => kernel_rfl); (try with_reducible rfl))
                              rotate_left
                              · simp only [Act.put, List.setIfInBounds_toArray, List.set_cons_zero, List.set_cons_succ, i64_w, i32_w]
                                rfl
                              refine pure_ (i := 7) (N := some 36) (v := ?_) (a' := ?_) #[true, true, true, true, true, true, true, true, false, false, false, false, false, false, false, false, false, false, false, false, false, false, false, false] rfl rfl (any_of HT_.out (by kernel_rfl)) (fun _ _ _ h => h) (Or.inl ⟨by rfl, ?_⟩) ?_ ?_
                              rotate_left
                              · intro w'
                                go_simp
                                first | with_reducible rfl | (rw [own_len_N ?hl_ ?hu_]; (case hl_ => assumption); (case hu_ => kernel_rfl); (try with_reducible rfl)) | (rw [own_len_R ?hl_ ?hu_]; (case hl_ => assumption); (case hu_ => kernel_rfl); (try with_reducible rfl))
                              rotate_left
                              · simp only [Act.put, List.setIfInBounds_toArray, List.set_cons_zero, List.set_cons_succ, i64_w, i32_w]
                                rfl
                              refine pure_ (i := 8) (N := some 37) (v := ?_) (a' := ?_) #[true, true, true, true, true, true, true, true, true, false, false, false, false, false, false, false, false, false, false, false, false, false, false, false] rfl rfl (any_of HT_.out (by kernel_rfl)) (fun _ _ _ h => h) (Or.inl ⟨by rfl, ?_⟩) ?_ ?_
                              rotate_left
                              · intro w'
                                go_simp
                                first | with_reducible rfl | (rw [own_len_N ?hl_ ?hu_]; (case hl_ => assumption); (case hu_ => kernel_rfl); (try with_reducible rfl)) | (rw [own_len_R ?hl_ ?hu_]; (case hl_ => assumption); (case hu_ => kernel_rfl); (try with_reducible rfl))
                              rotate_left
                              · simp only [Act.put, List.setIfInBounds_toArray, List.set_cons_zero, List.set_cons_succ, i64_w, i32_w]
                                rfl
                              refine pure_ (i := 9) (N := some 38) (v := ?_) (a' := ?_) #[true, true, true, true, true, true, true, true, true, true, false, false, false, false, false, false, false, false, false, false, false, false, false, false] rfl rfl (any_of HT_.out (by kernel_rfl)) (fun _ _ _ h => h) (Or.inl ⟨by rfl, ?_⟩) ?_ ?_
                              rotate_left
                              · intro w'
                                go_simp
                                first | with_reducible rfl | (rw [own_len_N ?hl_ ?hu_]; (case hl_ => assumption); (case hu_ => kernel_rfl); (try with_reducible rfl)) | (rw [own_len_R ?hl_ ?hu_]; (case hl_ => assumption); (case hu_ => kernel_rfl); (try with_reducible rfl))
                              rotate_left
                              · simp only [Act.put, List.setIfInBounds_toArray, List.set_cons_zero, List.set_cons_succ, i64_w, i32_w]
                                rfl
                              refine pure_ (i := 10) (N := some 39) (v := ?_) (a' := ?_) #[true, true, true, true, true, true, true, true, true, true, true, false, false, false, false, false, false, false, false, false, false, false, false, false] rfl rfl (any_of HT_.out (by kernel_rfl)) (fun _ _ _ h => h) (Or.inl ⟨by rfl, ?_⟩) ?_ ?_
                              rotate_left
                              · intro w'
                                go_simp
                                first | with_reducible rfl | (rw [own_len_N ?hl_ ?hu_]; (case hl_ => assumption); (case hu_ => kernel_rfl); (try with_reducible rfl)) | (rw [own_len_R ?hl_ ?hu_]; (case hl_ => assumption); (case hu_ => kernel_rfl); (try with_reducible rfl))
                              rotate_left
                              · simp only [Act.put, List.setIfInBounds_toArray, List.set_cons_zero, List.set_cons_succ, i64_w, i32_w]
                                rfl
                              refine pure_ (i := 11) (N := some 40) (v := ?_) (a' := ?_) #[true, true, true, true, true, true, true, true, true, true, true, true, false, false, false, false, false, false, false, false, false, false, false, false] rfl rfl (any_of HT_.out (by kernel_rfl)) (fun _ _ _ h => h) (Or.inl ⟨by rfl, ?_⟩) ?_ ?_
                              rotate_left
                              · intro w'
                                go_simp
                                first | with_reducible rfl | (rw [own_len_N ?hl_ ?hu_]; (case hl_ => assumption); (case hu_ => kernel_rfl); (try with_reducible rfl)) | (rw [own_len_R ?hl_ ?hu_]; (case hl_ => assumption); (case hu_ => kernel_rfl); (try with_reducible rfl))
                              rotate_left
                              · simp only [Act.put, List.setIfInBounds_toArray, List.set_cons_zero, List.set_cons_succ, i64_w, i32_w]
                                rfl
                              refine pure_ (i := 12) (N := some 41) (v := ?_) (a' := ?_) #[true, true, true, true, true, true, true, true, true, true, true, true, true, false, false, false, false, false, false, false, false, false, false, false] rfl rfl (any_of HT_.out (by kernel_rfl)) (fun _ _ _ h => h) (Or.inl ⟨by rfl, ?_⟩) ?_ ?_
                              rotate_left
                              · intro w'
                                go_simp
                                first | with_reducible rfl | (rw [own_len_N ?hl_ ?hu_]; (case hl_ => assumption); (case hu_ => kernel_rfl); (try with_reducible rfl)) | (rw [own_len_R ?hl_ ?hu_]; (case hl_ => assumption); (case hu_ => kernel_rfl); (try with_reducible rfl))
                              rotate_left
                              · simp only [Act.put, List.setIfInBounds_toArray, List.set_cons_zero, List.set_cons_succ, i64_w, i32_w]
                                rfl
                              refine pure_ (i := 13) (N := some 42) (v := ?_) (a' := ?_) #[true, true, true, true, true, true, true, true, true, true, true, true, true, true, false, false, false, false, false, false, false, false, false, false] rfl rfl (any_of HT_.out (by kernel_rfl)) (fun _ _ _ h => h) (Or.inl ⟨by rfl, ?_⟩) ?_ ?_
                              rotate_left
                              · intro w'
                                go_simp
                                first | with_reducible rfl | (rw [own_len_N ?hl_ ?hu_]; (case hl_ => assumption); (case hu_ => kernel_rfl); (try with_reducible rfl)) | (rw [own_len_R ?hl_ ?hu_]; (case hl_ => assumption); (case hu_ => kernel_rfl); (try with_reducible rfl))
                              rotate_left
                              · simp only [Act.put, List.setIfInBounds_toArray, List.set_cons_zero, List.set_cons_succ, i64_w, i32_w]
                                rfl
                              refine pure_ (i := 14) (N := some 43) (v := ?_) (a' := ?_) #[true, true, true, true, true, true, true, true, true, true, true, true, true, true, true, false, false, false, false, false, false, false, false, false] rfl rfl (any_of HT_.out (by kernel_rfl)) (fun _ _ _ h => h) (Or.inl ⟨by rfl, ?_⟩) ?_ ?_
                              rotate_left
                              · intro w'
                                go_simp
                                first | with_reducible rfl | (rw [own_len_N ?hl_ ?hu_]; (case hl_ => assumption); (case hu_ => kernel_rfl); (try with_reducible rfl)) | (rw [own_len_R ?hl_ ?hu_]; (case hl_ => assumption); (case hu_ => kernel_rfl); (try with_reducible rfl))
                              rotate_left
                              · simp only [Act.put, List.setIfInBounds_toArray, List.set_cons_zero, List.set_cons_succ, i64_w, i32_w]
                                rfl
                              refine pure_ (i := 16) (N := some 45) (v := ?_) (a' := ?_) #[true, true, true, true, true, true, true, true, true, true, true, true, true, true, true, false, true, false, false, false, false, false, false, false] rfl rfl (any_of HT_.out (by kernel_rfl)) (fun _ _ _ h => h) (Or.inl ⟨by rfl, ?_⟩) ?_ ?_
                              rotate_left
                              · intro w'
                                go_simp
                                first | with_reducible rfl | (rw [own_len_N ?hl_ ?hu_]; (case hl_ => assumption); (case hu_ => kernel_rfl); (try with_reducible rfl)) | (rw [own_len_R ?hl_ ?hu_]; (case hl_ => assumption); (case hu_ => kernel_rfl); (try with_reducible rfl))
                              rotate_left
                              · simp only [Act.put, List.setIfInBounds_toArray, List.set_cons_zero, List.set_cons_succ, i64_w, i32_w]
                                rfl
                              refine pure_ (i := 17) (N := some 46) (v := ?_) (a' := ?_) #[true, true, true, true, true, true, true, true, true, true, true, true, true, true, true, false, true, true, false, false, false, false, false, false] rfl rfl (any_of HT_.out (by kernel_rfl)) (fun _ _ _ h => h) (Or.inl ⟨by rfl, ?_⟩) ?_ ?_
                              rotate_left
                              · intro w'
                                go_simp
                                first | with_reducible rfl | (rw [own_len_N ?hl_ ?hu_]; (case hl_ => assumption); (case hu_ => kernel_rfl); (try with_reducible rfl)) | (rw [own_len_R ?hl_ ?hu_]; (case hl_ => assumption); (case hu_ => kernel_rfl); (try with_reducible rfl))
                              rotate_left
                              · simp only [Act.put, List.setIfInBounds_toArray, List.set_cons_zero, List.set_cons_succ, i64_w, i32_w]
                                rfl
                              refine pure_ (i := 18) (N := some 47) (v := ?_) (a' := ?_) #[true, true, true, true, true, true, true, true, true, true, true, true, true, true, true, false, true, true, true, false, false, false, false, false] rfl rfl (any_of HT_.out (by kernel_rfl)) (fun _ _ _ h => h) (Or.inl ⟨by rfl, ?_⟩) ?_ ?_
                              rotate_left
                              · intro w'
                                go_simp
                                first | with_reducible rfl | (rw [own_len_N ?hl_ ?hu_]; (case hl_ => assumption); (case hu_ => kernel_rfl); (try with_reducible rfl)) | (rw [own_len_R ?hl_ ?hu_]; (case hl_ => assumption); (case hu_ => kernel_rfl); (try with_reducible rfl))
                              rotate_left
                              · simp only [Act.put, List.setIfInBounds_toArray, List.set_cons_zero, List.set_cons_succ, i64_w, i32_w]
                                rfl
                              refine take_ (i := 15) (N := some 44) (v := ?_) (a' := ?_) #[true, true, true, true, true, true, true, true, true, true, true, true, true, true, true, true, true, true, true, false, false, false, false, false] rfl rfl (take_ofW HT_.out HW_.out (by kernel_rfl)) (fun _ _ _ h => h) (Or.inl ⟨by rfl, ?_⟩) hHeld ?_ ?_
                              rotate_left
                              · rintro w' ⟨s0, s1, s2, s3, s4, s5, s6⟩
                                go_simp
                                with_reducible rfl
                              rotate_left
                              · simp only [Act.put, List.setIfInBounds_toArray, List.set_cons_zero, List.set_cons_succ, i64_w, i32_w]
                                rfl
                              refine take_ (i := 19) (N := some 48) (v := ?_) (a' := ?_) #[true, true, true, true, true, true, true, true, true, true, true, true, true, true, true, true, true, true, true, true, false, false, false, false] rfl rfl (take_ofW HT_.out HW_.out (by kernel_rfl)) (fun _ _ _ h => h) (Or.inl ⟨by rfl, ?_⟩) hHeld ?_ ?_
                              rotate_left
                              · rintro w' ⟨s0, s1, s2, s3, s4, s5, s6⟩
                                go_simp
                                with_reducible rfl
                              rotate_left
                              · simp only [Act.put, List.setIfInBounds_toArray, List.set_cons_zero, List.set_cons_succ, i64_w, i32_w]
                                rfl
                              refine one_ (i := 20) (N := some 49) #[true, true, true, true, true, true, true, true, true, true, true, true, true, true, true, true, true, true, true, true, true, false, false, false] rfl rfl (one_of HT_.out (by kernel_rfl)) (by decide) (fun K hK => ?_)
                              refine goes_ Tryd.func32 (by kernel_rfl) rfl #[.slice A644_0 (rd_L5 t636 (ji25)).length c644_0, .slice A645_0 (rd_L5 t636 x26_2).length c645_0] (by rfl) rfl rfl (by (try simp only [List.map_toArray, List.map_cons, List.map_nil]); first | done | (rw [HE645.out.1, HE645.out.2]; rfl) | (simp only [hji25]; rfl) | rfl | (simp only [List.length_drop, List.length_take]; rfl)) ?_
                              with_reducible refine (position_Compare.calls k2 _ _ (rd_L5 t636 (ji25)) _ _ (rd_L5 t636 x26_2) t646 _ ?side1 ?side2 ?side3 ?side4 A28.out).mono ?_
                              (case side1 => repeat (first | exact (by repeat (first | (with_reducible exact HR644_0.out) | (with_reducible refine Kd.C_alloc ?_ _) | (with_reducible refine Kd.C_drewN ?_ _) | (with_reducible refine Kd.C_drew ?_) | exact HR644_0.out)) | (with_reducible refine Kd.C_alloc ?_ _) | (with_reducible refine Kd.C_drewN ?_ _) | (with_reducible refine Kd.C_drew ?_)))
                              (case side2 => exact HC644_0.out)
                              (case side3 => repeat (first | exact (by repeat (first | (with_reducible exact HR645_0.out) | (with_reducible refine Kd.C_alloc ?_ _) | (with_reducible refine Kd.C_drewN ?_ _) | (with_reducible refine Kd.C_drew ?_) | exact HR645_0.out)) | (with_reducible refine Kd.C_alloc ?_ _) | (with_reducible refine Kd.C_drewN ?_ _) | (with_reducible refine Kd.C_drew ?_)))
                              (case side4 => exact HC645_0.out)
                              rintro e w' ⟨rfl, ⟨nd, rfl⟩⟩
                              refine ⟨_, rfl, ?_⟩
                              refine hK.out _ _ ⟨(blk_cell BK632.out 0).trans rfl, (blk_cell BK632.out 1).trans rfl, (blk_cell BK632.out 2).trans rfl, (blk_cell BK632.out 3).trans rfl, hHeld.2.2.2.2.1, hHeld.2.2.2.2.2.1, hHeld.2.2.2.2.2.2⟩ (fun hHeld => ?_)
                              clear hK K
                              refine norm_ (a' := ?_) ?_ ?_
                              rotate_left
                              · show Act.put _ (some 49) _ = _
                                simp only [Act.put, List.setIfInBounds_toArray, List.set_cons_zero, List.set_cons_succ, i64_w, i32_w]
                                rfl
                              refine pure_ (i := 21) (N := some 50) (v := ?_) (a' := ?_) #[true, true, true, true, true, true, true, true, true, true, true, true, true, true, true, true, true, true, true, true, true, true, false, false] rfl rfl (any_of HT_.out (by kernel_rfl)) (fun _ _ _ h => h) (Or.inl ⟨by rfl, ?_⟩) ?_ ?_
                              rotate_left
                              · intro w'
                                go_simp
                                first | with_reducible rfl | (rw [own_len_N ?hl_ ?hu_]; (case hl_ => assumption); (case hu_ => kernel_rfl); (try with_reducible rfl)) | (rw [own_len_R ?hl_ ?hu_]; (case hl_ => assumption); (case hu_ => kernel_rfl); (try with_reducible rfl))
                              rotate_left
                              · simp only [Act.put, List.setIfInBounds_toArray, List.set_cons_zero, List.set_cons_succ, i64_w, i32_w]
                                rfl
                              refine pure_ (i := 22) (N := some 51) (v := ?_) (a' := ?_) #[true, true, true, true, true, true, true, true, true, true, true, true, true, true, true, true, true, true, true, true, true, true, true, false] rfl rfl (any_of HT_.out (by kernel_rfl)) (fun _ _ _ h => h) (Or.inl ⟨by rfl, ?_⟩) ?_ ?_
                              rotate_left
                              · intro w'
                                go_simp
                                first | with_reducible rfl | (rw [own_len_N ?hl_ ?hu_]; (case hl_ => assumption); (case hu_ => kernel_rfl); (try with_reducible rfl)) | (rw [own_len_R ?hl_ ?hu_]; (case hl_ => assumption); (case hu_ => kernel_rfl); (try with_reducible rfl))
                              rotate_left
                              · simp only [Act.put, List.setIfInBounds_toArray, List.set_cons_zero, List.set_cons_succ, i64_w, i32_w]
                                rfl
                              refine pure_ (i := 23) (N := some 52) (v := ?_) (a' := ?_) #[true, true, true, true, true, true, true, true, true, true, true, true, true, true, true, true, true, true, true, true, true, true, true, true] rfl rfl (any_of HT_.out (by kernel_rfl)) (fun _ _ _ h => h) (Or.inl ⟨by rfl, ?_⟩) ?_ ?_
                              rotate_left
                              · intro w'
                                go_simp
                                first | with_reducible rfl | (rw [own_len_N ?hl_ ?hu_]; (case hl_ => assumption); (case hu_ => kernel_rfl); (try with_reducible rfl)) | (rw [own_len_R ?hl_ ?hu_]; (case hl_ => assumption); (case hu_ => kernel_rfl); (try with_reducible rfl))
                              rotate_left
                              · simp only [Act.put, List.setIfInBounds_toArray, List.set_cons_zero, List.set_cons_succ, i64_w, i32_w]
                                rfl
                              refine done_ (done_of HT_.out (by kernel_rfl)) ?_
                              try go_wp2
                              go_ret
                              exact ⟨by first | rfl | (simp [errW_none, errW_some] <;> rfl) | (simp only [← hji25]; first | rfl | (simp [errW_none, errW_some] <;> rfl)) | (simp [*, errW_none, errW_some] <;> rfl), by repeat (first | (with_reducible first | exact HB.out | apply below_alloc | apply pw_below_drewN | apply below_drew1 | refine below_set ?_ GE632.out) | exact HB.out)⟩
                            · rw [if_neg c29] at H
                              have c29b0 : decide (0 ≤ t646) = false := decide_eq_false c29
                              clear c29
                              have H' := Aside0.mk H
                              clear H
                              try go_wp2
                              have n0_ := Aside0.mk (Kd.N_drew HO_3.out)
                              have n1_ := Aside0.mk (blk_drew BK632.out)
                              have n2_ := Aside0.mk (below_drew1 HB.out)
                              clear HO_3
                              clear BK632
                              clear HB
                              have HO_3 := n0_
                              have BK632 := n1_
                              have HB := n2_
                              clear n0_ n1_ n2_
                              have p642 : 0 ≤ (x26_2 : Int) := of_decide_eq_true (by first | (with_reducible assumption) | assumption)
                              have q642 : x26_2 < (t636.length : Int) := of_decide_eq_true (by first | (with_reducible assumption) | assumption)
                              obtain ⟨ad642, A642_0, c642_0, e642, hx642_0, hl642_0, hi642_0⟩ := at_L5 (Kd.N_reads' HO_3.out).2.2 x26_2 p642 q642
                              cases e642
                              obtain ⟨ce642, hce642, hMe642, hcc642⟩ := Kd.N_get HO_3.out [] x26_2 p642 (by first | exact q642 | exact of_decide_eq_true (by first | (with_reducible assumption) | assumption) | (have e_ := (Kd.N_reads' HO_3.out).1; omega))
                              obtain ⟨ua642_0, uc642_0, rfl, ul642_0, ge642_0⟩ := Kd.FK_slice_open hMe642
                              have hv642_0 := hcc642 0 _ rfl
                              rw [Nat.add_zero, show ((Kd.slice 3 (Kd.int .i64))).sz = 1 from rfl, Nat.mul_one] at hv642_0
                              replace hv642_0 := Option.some.inj (hv642_0.symm.trans hx642_0)
                              injection hv642_0 with hva_ hvn_ hvc_
                              rw [hva_] at ge642_0
                              rw [hvc_] at ul642_0
                              have HL642_0 := Aside0.mk (show Kd.V (Kd.int .i64) 3 _ w.heap.size _ _ (rd_L5 t636 x26_2) from Kd.V_mk ul642_0 ge642_0)
                              clear hva_ hvn_ hvc_ ge642_0 ul642_0
                              clear hcc642 hce642
                              have HR642_0 := Aside0.mk hi642_0
                              have HC642_0 := Aside0.mk hl642_0
                              clear hi642_0 hl642_0
                              replace p642 := eq_true p642
                              replace q642 := eq_true q642
                              have p644 : 0 ≤ ((ji25) : Int) := of_decide_eq_true (by first | (with_reducible assumption) | assumption)
                              have q644 : (ji25) < (t636.length : Int) := of_decide_eq_true (by first | (with_reducible assumption) | assumption)
                              obtain ⟨ad644, A644_0, c644_0, e644, hx644_0, hl644_0, hi644_0⟩ := at_L5 (Kd.N_reads' HO_3.out).2.2 (ji25) p644 q644
                              obtain rfl : ad642 = ad644 := (by injection e644)
                              obtain ⟨ce644, hce644, hMe644, hcc644⟩ := Kd.N_get HO_3.out [] (ji25) p644 (by first | exact q644 | exact of_decide_eq_true (by first | (with_reducible assumption) | assumption) | (have e_ := (Kd.N_reads' HO_3.out).1; omega))
                              obtain ⟨ua644_0, uc644_0, rfl, ul644_0, ge644_0⟩ := Kd.FK_slice_open hMe644
                              have hv644_0 := hcc644 0 _ rfl
                              rw [Nat.add_zero, show ((Kd.slice 3 (Kd.int .i64))).sz = 1 from rfl, Nat.mul_one] at hv644_0
                              replace hv644_0 := Option.some.inj (hv644_0.symm.trans hx644_0)
                              injection hv644_0 with hva_ hvn_ hvc_
                              rw [hva_] at ge644_0
                              rw [hvc_] at ul644_0
                              have HL644_0 := Aside0.mk (show Kd.V (Kd.int .i64) 3 _ w.heap.size _ _ (rd_L5 t636 (ji25)) from Kd.V_mk ul644_0 ge644_0)
                              clear hva_ hvn_ hvc_ ge644_0 ul644_0
                              clear hcc644 hce644
                              have HR644_0 := Aside0.mk hi644_0
                              have HC644_0 := Aside0.mk hl644_0
                              clear hi644_0 hl644_0
                              replace p644 := eq_true p644
                              replace q644 := eq_true q644
                              have p645 : 0 ≤ (x26_2 : Int) := of_decide_eq_true (by first | (with_reducible assumption) | assumption)
                              have q645 : x26_2 < (t636.length : Int) := of_decide_eq_true (by first | (with_reducible assumption) | assumption)
                              obtain ⟨ad645, A645_0, c645_0, e645, hx645_0, hl645_0, hi645_0⟩ := at_L5 (Kd.N_reads' HO_3.out).2.2 x26_2 p645 q645
                              obtain rfl : ad642 = ad645 := (by injection e645)
                              obtain ⟨ce645, hce645, hMe645, hcc645⟩ := Kd.N_get HO_3.out [] x26_2 p645 (by first | exact q645 | exact of_decide_eq_true (by first | (with_reducible assumption) | assumption) | (have e_ := (Kd.N_reads' HO_3.out).1; omega))
                              obtain ⟨ua645_0, uc645_0, rfl, ul645_0, ge645_0⟩ := Kd.FK_slice_open hMe645
                              have hv645_0 := hcc645 0 _ rfl
                              rw [Nat.add_zero, show ((Kd.slice 3 (Kd.int .i64))).sz = 1 from rfl, Nat.mul_one] at hv645_0
                              replace hv645_0 := Option.some.inj (hv645_0.symm.trans hx645_0)
                              injection hv645_0 with hva_ hvn_ hvc_
                              rw [hva_] at ge645_0
                              rw [hvc_] at ul645_0
                              have HL645_0 := Aside0.mk (show Kd.V (Kd.int .i64) 3 _ w.heap.size _ _ (rd_L5 t636 x26_2) from Kd.V_mk ul645_0 ge645_0)
                              clear hva_ hvn_ hvc_ ge645_0 ul645_0
                              clear hcc645 hce645
                              have HR645_0 := Aside0.mk hi645_0
                              have HC645_0 := Aside0.mk hl645_0
                              clear hi645_0 hl645_0
                              replace p645 := eq_true p645
                              replace q645 := eq_true q645
                              have HE645 : Aside0 (A645_0 = A642_0 ∧ c645_0 = c642_0) := ⟨by have he_ := Option.some.inj (hx645_0.symm.trans hx642_0); injection he_ with f1_ f2_ f3_; exact ⟨f1_, f3_⟩⟩
                              refine start_ (n := 24) (S := fun w' => w'.cell? ⟨gb632, 0, none⟩ = some (.int .i64 a0_0) ∧ w'.cell? ⟨gb632, 1, none⟩ = some (.string a0_1) ∧ w'.cell? ⟨gb632, 2, none⟩ = some (.int .i64 a0_2) ∧ w'.cell? ⟨gb632, 3, none⟩ = some (.slice A0_3 l0_3.length c0_3) ∧ w'.cell? (ad642.add (x26_2).toNat) = some (.slice A642_0 (rd_L5 t636 x26_2).length c642_0) ∧ w'.cell? (ad642.add ((ji25)).toNat) = some (.slice A644_0 (rd_L5 t636 (ji25)).length c644_0) ∧ w'.cell? (ad642.add (x26_2).toNat) = some (.slice A645_0 (rd_L5 t636 x26_2).length c645_0)) (ds := []) #[false, false, false, false, false, false, false, false, false, false, false, false, false, false, false, false, false, false, false, false, false, false, false, false] (by kernel_rfl) rfl rfl ⟨(blk_cell BK632.out 0).trans rfl, (blk_cell BK632.out 1).trans rfl, (blk_cell BK632.out 2).trans rfl, (blk_cell BK632.out 3).trans rfl, hx642_0, hx644_0, hx645_0⟩ (fun hHeld => ?_); refine with_tabW vinculumlaw10_PositionComplete.tab9 vinculumlaw10_PositionComplete.bits9 (fun HT_ HW_ => ?_)
                              generalize wr.drew = w32 at HO_3 BK632 HB HL642_0 HL644_0 HL645_0 HR642_0 HR644_0 HR645_0 hx642_0 hx644_0 hx645_0 hHeld ⊢
                              refine pure_ (i := 1) (N := some 30) (v := ?_) (a' := ?_) #[false, true, false, false, false, false, false, false, false, false, false, false, false, false, false, false, false, false, false, false, false, false, false, false] rfl rfl (any_of HT_.out (by kernel_rfl)) (fun _ _ _ h => h) (Or.inl ⟨by rfl, ?_⟩) ?_ ?_
                              rotate_left
                              · intro w'
                                go_simp
                                first | with_reducible rfl | (rw [own_len_N ?hl_ ?hu_]; (case hl_ => assumption); (case hu_ => kernel_rfl); (try with_reducible rfl)) | (rw [own_len_R ?hl_ ?hu_]; (case hl_ => assumption); (case hu_ => kernel_rfl); (try with_reducible rfl))
                              rotate_left
                              · simp only [Act.put, List.setIfInBounds_toArray, List.set_cons_zero, List.set_cons_succ, i64_w, i32_w]
                                rfl
                              refine pure_ (i := 2) (N := some 31) (v := ?_) (a' := ?_) #[false, true, true, false, false, false, false, false, false, false, false, false, false, false, false, false, false, false, false, false, false, false, false, false] rfl rfl (any_of HT_.out (by kernel_rfl)) (fun _ _ _ h => h) (Or.inl ⟨by rfl, ?_⟩) ?_ ?_
                              rotate_left
                              · intro w'
                                go_simp
                                first | with_reducible rfl | (rw [own_len_N ?hl_ ?hu_]; (case hl_ => assumption); (case hu_ => kernel_rfl); (try with_reducible rfl)) | (rw [own_len_R ?hl_ ?hu_]; (case hl_ => assumption); (case hu_ => kernel_rfl); (try with_reducible rfl))
                              rotate_left
                              · simp only [Act.put, List.setIfInBounds_toArray, List.set_cons_zero, List.set_cons_succ, i64_w, i32_w]
                                rfl
                              refine pure_ (i := 3) (N := some 32) (v := ?_) (a' := ?_) #[false, true, true, true, false, false, false, false, false, false, false, false, false, false, false, false, false, false, false, false, false, false, false, false] rfl rfl (any_of HT_.out (by kernel_rfl)) (fun _ _ _ h => h) (Or.inl ⟨by rfl, ?_⟩) ?_ ?_
                              rotate_left
                              · intro w'
                                go_simp
                                first | with_reducible rfl | (rw [own_len_N ?hl_ ?hu_]; (case hl_ => assumption); (case hu_ => kernel_rfl); (try with_reducible rfl)) | (rw [own_len_R ?hl_ ?hu_]; (case hl_ => assumption); (case hu_ => kernel_rfl); (try with_reducible rfl))
                              rotate_left
                              · simp only [Act.put, List.setIfInBounds_toArray, List.set_cons_zero, List.set_cons_succ, i64_w, i32_w]
                                rfl
                              refine take_ (i := 0) (N := some 29) (v := ?_) (a' := ?_) #[true, true, true, true, false, false, false, false, false, false, false, false, false, false, false, false, false, false, false, false, false, false, false, false] rfl rfl (take_ofW HT_.out HW_.out (by kernel_rfl)) (fun _ _ _ h => h) (Or.inl ⟨by rfl, ?_⟩) hHeld ?_ ?_
                              rotate_left
                              · rintro w' ⟨s0, s1, s2, s3, s4, s5, s6⟩
                                go_simp
                                with_reducible rfl
                              rotate_left
                              · simp only [Act.put, List.setIfInBounds_toArray, List.set_cons_zero, List.set_cons_succ, i64_w, i32_w]
                                rfl
                              refine take_ (i := 4) (N := some 33) (v := ?_) (a' := ?_) #[true, true, true, true, true, false, false, false, false, false, false, false, false, false, false, false, false, false, false, false, false, false, false, false] rfl rfl (take_ofW HT_.out HW_.out (by kernel_rfl)) (fun _ _ _ h => h) (Or.inl ⟨by rfl, ?_⟩) hHeld ?_ ?_
                              rotate_left
                              · rintro w' ⟨s0, s1, s2, s3, s4, s5, s6⟩
                                go_simp
                                with_reducible rfl
                              rotate_left
                              · simp only [Act.put, List.setIfInBounds_toArray, List.set_cons_zero, List.set_cons_succ, i64_w, i32_w]
                                rfl
                              refine one_ (i := 5) (N := some 34) #[true, true, true, true, true, true, false, false, false, false, false, false, false, false, false, false, false, false, false, false, false, false, false, false] rfl rfl (one_of HT_.out (by kernel_rfl)) (by decide) (fun K hK => ?_)
                              refine goes_ Tryd.func41 (by kernel_rfl) rfl #[.agg #[.int .i64 a0_0, .string a0_1, .int .i64 a0_2, .slice A0_3 l0_3.length c0_3], .slice A642_0 (rd_L5 t636 x26_2).length c642_0] (by rfl) rfl rfl (by (try simp only [List.map_toArray, List.map_cons, List.map_nil]); first | done | rfl | (simp only [List.length_drop, List.length_take]; rfl)) ?_
                              with_reducible refine (position_Valid.calls k2 a0_0 a0_1 a0_2 _ _ l0_3 _ _ (rd_L5 t636 x26_2) true _ ?side1 ?side2 ?side3 ?side4 A22.out).mono ?_
                              (case side1 => repeat (first | exact (Kd.C_below HR0_3.out HB.out) | (with_reducible refine Kd.C_alloc ?_ _) | (with_reducible refine Kd.C_drewN ?_ _) | (with_reducible refine Kd.C_drew ?_)))
                              (case side2 => exact HC0_3.out)
                              (case side3 => repeat (first | exact (by repeat (first | (with_reducible exact HR642_0.out) | (with_reducible refine Kd.C_alloc ?_ _) | (with_reducible refine Kd.C_drewN ?_ _) | (with_reducible refine Kd.C_drew ?_) | exact HR642_0.out)) | (with_reducible refine Kd.C_alloc ?_ _) | (with_reducible refine Kd.C_drewN ?_ _) | (with_reducible refine Kd.C_drew ?_)))
                              (case side4 => exact HC642_0.out)
                              rintro e w33 ⟨rfl, hb⟩
                              have HS4_ := (hb.cell (World.block_lt_of_cell? _ _ (hHeld.2.2.2.2.1))).trans (hHeld.2.2.2.2.1)
                              have HS5_ := (hb.cell (World.block_lt_of_cell? _ _ (hHeld.2.2.2.2.2.1))).trans (hHeld.2.2.2.2.2.1)
                              have HS6_ := (hb.cell (World.block_lt_of_cell? _ _ (hHeld.2.2.2.2.2.2))).trans (hHeld.2.2.2.2.2.2)
                              refine ⟨_, rfl, ?_⟩
                              have n0_ := Aside0.mk (Kd.N_below (by (with_reducible repeat (first | apply Kd.N_alloc | apply Kd.N_drewN | apply Kd.N_drew)); exact HO_3.out) hb)
                              have n1_ := Aside0.mk (Kd.V_below (by (with_reducible repeat (first | apply Kd.V_alloc | apply Kd.V_drewN | apply Kd.V_drew)); exact HL642_0.out) hb)
                              have n2_ := Aside0.mk (blk_below (g := gb632) (o := .cells #[.int .i64 a0_0, .string a0_1, .int .i64 a0_2, .slice A0_3 l0_3.length c0_3] 36 (0, 0)) (by (with_reducible repeat (first | refine blk_drewN ?_ _ | refine blk_drew ?_ | refine blk_alloc ?_ _)); exact BK632.out) hb)
                              have n3_ := Aside0.mk (Kd.C_below (by repeat (first | (with_reducible exact HR642_0.out) | (with_reducible refine Kd.C_alloc ?_ _) | (with_reducible refine Kd.C_drewN ?_ _) | (with_reducible refine Kd.C_drew ?_) | exact HR642_0.out)) hb)
                              have n4_ := Aside0.mk (below_step (by repeat (first | (with_reducible first | exact HB.out | apply below_alloc | apply pw_below_drewN | apply below_drew1 | refine below_set ?_ GE632.out) | exact HB.out)) hb)
                              clear HO_3
                              clear HL642_0
                              clear BK632
                              clear HR642_0
                              clear HB
                              have HO_3 := n0_
                              have HL642_0 := n1_
                              have BK632 := n2_
                              have HR642_0 := n3_
                              have HB := n4_
                              clear n0_ n1_ n2_ n3_ n4_
                              (try replace HR642_0 := Aside0.mk (Kd.C_below HR642_0.out hb))
                              (try replace HR644_0 := Aside0.mk (Kd.C_below HR644_0.out hb))
                              (try replace HR645_0 := Aside0.mk (Kd.C_below HR645_0.out hb))
                              (try clear hb)
                              (try clear hb2)
                              (try clear hk)
                              (try clear hi)
                              refine hK.out _ _ ⟨(blk_cell BK632.out 0).trans rfl, (blk_cell BK632.out 1).trans rfl, (blk_cell BK632.out 2).trans rfl, (blk_cell BK632.out 3).trans rfl, HS4_, HS5_, HS6_⟩ (fun hHeld => ?_)
                              clear hK K
                              refine norm_ (a' := ?_) ?_ ?_
                              rotate_left
                              · show Act.put _ (some 34) _ = _
                                simp only [Act.put, List.setIfInBounds_toArray, List.set_cons_zero, List.set_cons_succ, i64_w, i32_w]
                                rfl
                              refine pure_ (i := 6) (N := some 35) (v := ?_) (a' := ?_) #[true, true, true, true, true, true, true, false, false, false, false, false, false, false, false, false, false, false, false, false, false, false, false, false] rfl rfl (any_of HT_.out (by kernel_rfl)) (fun _ _ _ h => h) (Or.inl ⟨by rfl, ?_⟩) ?_ ?_
                              rotate_left
                              · intro w'
                                go_simp
                                first | with_reducible rfl | (rw [own_len_N ?hl_ ?hu_]; (case hl_ => assumption); (case hu_ => kernel_rfl); (try with_reducible rfl)) | (rw [own_len_R ?hl_ ?hu_]; (case hl_ => assumption); (case hu_ => kernel_rfl); (try with_reducible rfl))
                              rotate_left
                              · simp only [Act.put, List.setIfInBounds_toArray, List.set_cons_zero, List.set_cons_succ, i64_w, i32_w]
                                rfl
                              refine pure_ (i := 7) (N := some 36) (v := ?_) (a' := ?_) #[true, true, true, true, true, true, true, true, false, false, false, false, false, false, false, false, false, false, false, false, false, false, false, false] rfl rfl (any_of HT_.out (by kernel_rfl)) (fun _ _ _ h => h) (Or.inl ⟨by rfl, ?_⟩) ?_ ?_
                              rotate_left
                              · intro w'
                                go_simp
                                first | with_reducible rfl | (rw [own_len_N ?hl_ ?hu_]; (case hl_ => assumption); (case hu_ => kernel_rfl); (try with_reducible rfl)) | (rw [own_len_R ?hl_ ?hu_]; (case hl_ => assumption); (case hu_ => kernel_rfl); (try with_reducible rfl))
                              rotate_left
                              · simp only [Act.put, List.setIfInBounds_toArray, List.set_cons_zero, List.set_cons_succ, i64_w, i32_w]
                                rfl
                              refine pure_ (i := 8) (N := some 37) (v := ?_) (a' := ?_) #[true, true, true, true, true, true, true, true, true, false, false, false, false, false, false, false, false, false, false, false, false, false, false, false] rfl rfl (any_of HT_.out (by kernel_rfl)) (fun _ _ _ h => h) (Or.inl ⟨by rfl, ?_⟩) ?_ ?_
                              rotate_left
                              · intro w'
                                go_simp
                                first | with_reducible rfl | (rw [own_len_N ?hl_ ?hu_]; (case hl_ => assumption); (case hu_ => kernel_rfl); (try with_reducible rfl)) | (rw [own_len_R ?hl_ ?hu_]; (case hl_ => assumption); (case hu_ => kernel_rfl); (try with_reducible rfl))
                              rotate_left
                              · simp only [Act.put, List.setIfInBounds_toArray, List.set_cons_zero, List.set_cons_succ, i64_w, i32_w]
                                rfl
                              refine pure_ (i := 9) (N := some 38) (v := ?_) (a' := ?_) #[true, true, true, true, true, true, true, true, true, true, false, false, false, false, false, false, false, false, false, false, false, false, false, false] rfl rfl (any_of HT_.out (by kernel_rfl)) (fun _ _ _ h => h) (Or.inl ⟨by rfl, ?_⟩) ?_ ?_
                              rotate_left
                              · intro w'
                                go_simp
                                first | with_reducible rfl | (rw [own_len_N ?hl_ ?hu_]; (case hl_ => assumption); (case hu_ => kernel_rfl); (try with_reducible rfl)) | (rw [own_len_R ?hl_ ?hu_]; (case hl_ => assumption); (case hu_ => kernel_rfl); (try with_reducible rfl))
                              rotate_left
                              · simp only [Act.put, List.setIfInBounds_toArray, List.set_cons_zero, List.set_cons_succ, i64_w, i32_w]
                                rfl
                              refine pure_ (i := 10) (N := some 39) (v := ?_) (a' := ?_) #[true, true, true, true, true, true, true, true, true, true, true, false, false, false, false, false, false, false, false, false, false, false, false, false] rfl rfl (any_of HT_.out (by kernel_rfl)) (fun _ _ _ h => h) (Or.inl ⟨by rfl, ?_⟩) ?_ ?_
                              rotate_left
                              · intro w'
                                go_simp
                                first | with_reducible rfl | (rw [own_len_N ?hl_ ?hu_]; (case hl_ => assumption); (case hu_ => kernel_rfl); (try with_reducible rfl)) | (rw [own_len_R ?hl_ ?hu_]; (case hl_ => assumption); (case hu_ => kernel_rfl); (try with_reducible rfl))
                              rotate_left
                              · simp only [Act.put, List.setIfInBounds_toArray, List.set_cons_zero, List.set_cons_succ, i64_w, i32_w]
                                rfl
                              refine pure_ (i := 11) (N := some 40) (v := ?_) (a' := ?_) #[true, true, true, true, true, true, true, true, true, true, true, true, false, false, false, false, false, false, false, false, false, false, false, false] rfl rfl (any_of HT_.out (by kernel_rfl)) (fun _ _ _ h => h) (Or.inl ⟨by rfl, ?_⟩) ?_ ?_
                              rotate_left
                              · intro w'
                                go_simp
                                first | with_reducible rfl | (rw [own_len_N ?hl_ ?hu_]; (case hl_ => assumption); (case hu_ => kernel_rfl); (try with_reducible rfl)) | (rw [own_len_R ?hl_ ?hu_]; (case hl_ => assumption); (case hu_ => kernel_rfl); (try with_reducible rfl))
                              rotate_left
                              · simp only [Act.put, List.setIfInBounds_toArray, List.set_cons_zero, List.set_cons_succ, i64_w, i32_w]
                                rfl
                              refine pure_ (i := 12) (N := some 41) (v := ?_) (a' := ?_) #[true, true, true, true, true, true, true, true, true, true, true, true, true, false, false, false, false, false, false, false, false, false, false, false] rfl rfl (any_of HT_.out (by kernel_rfl)) (fun _ _ _ h => h) (Or.inl ⟨by rfl, ?_⟩) ?_ ?_
                              rotate_left
                              · intro w'
                                go_simp
                                first | with_reducible rfl | (rw [own_len_N ?hl_ ?hu_]; (case hl_ => assumption); (case hu_ => kernel_rfl); (try with_reducible rfl)) | (rw [own_len_R ?hl_ ?hu_]; (case hl_ => assumption); (case hu_ => kernel_rfl); (try with_reducible rfl))
                              rotate_left
                              · simp only [Act.put, List.setIfInBounds_toArray, List.set_cons_zero, List.set_cons_succ, i64_w, i32_w]
                                rfl
                              refine pure_ (i := 13) (N := some 42) (v := ?_) (a' := ?_) #[true, true, true, true, true, true, true, true, true, true, true, true, true, true, false, false, false, false, false, false, false, false, false, false] rfl rfl (any_of HT_.out (by kernel_rfl)) (fun _ _ _ h => h) (Or.inl ⟨by rfl, ?_⟩) ?_ ?_
                              rotate_left
                              · intro w'
                                go_simp
                                first | with_reducible rfl | (rw [own_len_N ?hl_ ?hu_]; (case hl_ => assumption); (case hu_ => kernel_rfl); (try with_reducible rfl)) | (rw [own_len_R ?hl_ ?hu_]; (case hl_ => assumption); (case hu_ => kernel_rfl); (try with_reducible rfl))
                              rotate_left
                              · simp only [Act.put, List.setIfInBounds_toArray, List.set_cons_zero, List.set_cons_succ, i64_w, i32_w]
                                rfl
                              refine pure_ (i := 14) (N := some 43) (v := ?_) (a' := ?_) #[true, true, true, true, true, true, true, true, true, true, true, true, true, true, true, false, false, false, false, false, false, false, false, false] rfl rfl (any_of HT_.out (by kernel_rfl)) (fun _ _ _ h => h) (Or.inl ⟨by rfl, ?_⟩) ?_ ?_
                              rotate_left
                              · intro w'
                                go_simp
                                first | with_reducible rfl | (rw [own_len_N ?hl_ ?hu_]; (case hl_ => assumption); (case hu_ => kernel_rfl); (try with_reducible rfl)) | (rw [own_len_R ?hl_ ?hu_]; (case hl_ => assumption); (case hu_ => kernel_rfl); (try with_reducible rfl))
                              rotate_left
                              · simp only [Act.put, List.setIfInBounds_toArray, List.set_cons_zero, List.set_cons_succ, i64_w, i32_w]
                                rfl
                              refine pure_ (i := 16) (N := some 45) (v := ?_) (a' := ?_) #[true, true, true, true, true, true, true, true, true, true, true, true, true, true, true, false, true, false, false, false, false, false, false, false] rfl rfl (any_of HT_.out (by kernel_rfl)) (fun _ _ _ h => h) (Or.inl ⟨by rfl, ?_⟩) ?_ ?_
                              rotate_left
                              · intro w'
                                go_simp
                                first | with_reducible rfl | (rw [own_len_N ?hl_ ?hu_]; (case hl_ => assumption); (case hu_ => kernel_rfl); (try with_reducible rfl)) | (rw [own_len_R ?hl_ ?hu_]; (case hl_ => assumption); (case hu_ => kernel_rfl); (try with_reducible rfl))
                              rotate_left
                              · simp only [Act.put, List.setIfInBounds_toArray, List.set_cons_zero, List.set_cons_succ, i64_w, i32_w]
                                rfl
                              refine pure_ (i := 17) (N := some 46) (v := ?_) (a' := ?_) #[true, true, true, true, true, true, true, true, true, true, true, true, true, true, true, false, true, true, false, false, false, false, false, false] rfl rfl (any_of HT_.out (by kernel_rfl)) (fun _ _ _ h => h) (Or.inl ⟨by rfl, ?_⟩) ?_ ?_
                              rotate_left
                              · intro w'
                                go_simp
                                first | with_reducible rfl | (rw [own_len_N ?hl_ ?hu_]; (case hl_ => assumption); (case hu_ => kernel_rfl); (try with_reducible rfl)) | (rw [own_len_R ?hl_ ?hu_]; (case hl_ => assumption); (case hu_ => kernel_rfl); (try with_reducible rfl))
                              rotate_left
                              · simp only [Act.put, List.setIfInBounds_toArray, List.set_cons_zero, List.set_cons_succ, i64_w, i32_w]
                                rfl
                              refine pure_ (i := 18) (N := some 47) (v := ?_) (a' := ?_) #[true, true, true, true, true, true, true, true, true, true, true, true, true, true, true, false, true, true, true, false, false, false, false, false] rfl rfl (any_of HT_.out (by kernel_rfl)) (fun _ _ _ h => h) (Or.inl ⟨by rfl, ?_⟩) ?_ ?_
                              rotate_left
                              · intro w'
                                go_simp
                                first | with_reducible rfl | (rw [own_len_N ?hl_ ?hu_]; (case hl_ => assumption); (case hu_ => kernel_rfl); (try with_reducible rfl)) | (rw [own_len_R ?hl_ ?hu_]; (case hl_ => assumption); (case hu_ => kernel_rfl); (try with_reducible rfl))
                              rotate_left
                              · simp only [Act.put, List.setIfInBounds_toArray, List.set_cons_zero, List.set_cons_succ, i64_w, i32_w]
                                rfl
                              refine take_ (i := 15) (N := some 44) (v := ?_) (a' := ?_) #[true, true, true, true, true, true, true, true, true, true, true, true, true, true, true, true, true, true, true, false, false, false, false, false] rfl rfl (take_ofW HT_.out HW_.out (by kernel_rfl)) (fun _ _ _ h => h) (Or.inl ⟨by rfl, ?_⟩) hHeld ?_ ?_
                              rotate_left
                              · rintro w' ⟨s0, s1, s2, s3, s4, s5, s6⟩
                                go_simp
                                with_reducible rfl
                              rotate_left
                              · simp only [Act.put, List.setIfInBounds_toArray, List.set_cons_zero, List.set_cons_succ, i64_w, i32_w]
                                rfl
                              refine take_ (i := 19) (N := some 48) (v := ?_) (a' := ?_) #[true, true, true, true, true, true, true, true, true, true, true, true, true, true, true, true, true, true, true, true, false, false, false, false] rfl rfl (take_ofW HT_.out HW_.out (by kernel_rfl)) (fun _ _ _ h => h) (Or.inl ⟨by rfl, ?_⟩) hHeld ?_ ?_
                              rotate_left
                              · rintro w' ⟨s0, s1, s2, s3, s4, s5, s6⟩
                                go_simp
                                with_reducible rfl
                              rotate_left
                              · simp only [Act.put, List.setIfInBounds_toArray, List.set_cons_zero, List.set_cons_succ, i64_w, i32_w]
                                rfl
                              refine one_ (i := 20) (N := some 49) #[true, true, true, true, true, true, true, true, true, true, true, true, true, true, true, true, true, true, true, true, true, false, false, false] rfl rfl (one_of HT_.out (by kernel_rfl)) (by decide) (fun K hK => ?_)
                              refine goes_ Tryd.func32 (by kernel_rfl) rfl #[.slice A644_0 (rd_L5 t636 (ji25)).length c644_0, .slice A645_0 (rd_L5 t636 x26_2).length c645_0] (by rfl) rfl rfl (by (try simp only [List.map_toArray, List.map_cons, List.map_nil]); first | done | (rw [HE645.out.1, HE645.out.2]; rfl) | (simp only [hji25]; rfl) | rfl | (simp only [List.length_drop, List.length_take]; rfl)) ?_
                              with_reducible refine (position_Compare.calls k2 _ _ (rd_L5 t636 (ji25)) _ _ (rd_L5 t636 x26_2) t646 _ ?side1 ?side2 ?side3 ?side4 A28.out).mono ?_
                              (case side1 => repeat (first | exact (by repeat (first | (with_reducible exact HR644_0.out) | (with_reducible refine Kd.C_alloc ?_ _) | (with_reducible refine Kd.C_drewN ?_ _) | (with_reducible refine Kd.C_drew ?_) | exact HR644_0.out)) | (with_reducible refine Kd.C_alloc ?_ _) | (with_reducible refine Kd.C_drewN ?_ _) | (with_reducible refine Kd.C_drew ?_)))
                              (case side2 => exact HC644_0.out)
                              (case side3 => repeat (first | exact (by repeat (first | (with_reducible exact HR645_0.out) | (with_reducible refine Kd.C_alloc ?_ _) | (with_reducible refine Kd.C_drewN ?_ _) | (with_reducible refine Kd.C_drew ?_) | exact HR645_0.out)) | (with_reducible refine Kd.C_alloc ?_ _) | (with_reducible refine Kd.C_drewN ?_ _) | (with_reducible refine Kd.C_drew ?_)))
                              (case side4 => exact HC645_0.out)
                              rintro e w' ⟨rfl, ⟨nd, rfl⟩⟩
                              refine ⟨_, rfl, ?_⟩
                              refine hK.out _ _ ⟨(blk_cell BK632.out 0).trans rfl, (blk_cell BK632.out 1).trans rfl, (blk_cell BK632.out 2).trans rfl, (blk_cell BK632.out 3).trans rfl, hHeld.2.2.2.2.1, hHeld.2.2.2.2.2.1, hHeld.2.2.2.2.2.2⟩ (fun hHeld => ?_)
                              clear hK K
                              refine norm_ (a' := ?_) ?_ ?_
                              rotate_left
                              · show Act.put _ (some 49) _ = _
                                simp only [Act.put, List.setIfInBounds_toArray, List.set_cons_zero, List.set_cons_succ, i64_w, i32_w]
                                rfl
                              refine pure_ (i := 21) (N := some 50) (v := ?_) (a' := ?_) #[true, true, true, true, true, true, true, true, true, true, true, true, true, true, true, true, true, true, true, true, true, true, false, false] rfl rfl (any_of HT_.out (by kernel_rfl)) (fun _ _ _ h => h) (Or.inl ⟨by rfl, ?_⟩) ?_ ?_
                              rotate_left
                              · intro w'
                                go_simp
                                first | with_reducible rfl | (rw [own_len_N ?hl_ ?hu_]; (case hl_ => assumption); (case hu_ => kernel_rfl); (try with_reducible rfl)) | (rw [own_len_R ?hl_ ?hu_]; (case hl_ => assumption); (case hu_ => kernel_rfl); (try with_reducible rfl))
                              rotate_left
                              · simp only [Act.put, List.setIfInBounds_toArray, List.set_cons_zero, List.set_cons_succ, i64_w, i32_w]
                                rfl
                              refine pure_ (i := 22) (N := some 51) (v := ?_) (a' := ?_) #[true, true, true, true, true, true, true, true, true, true, true, true, true, true, true, true, true, true, true, true, true, true, true, false] rfl rfl (any_of HT_.out (by kernel_rfl)) (fun _ _ _ h => h) (Or.inl ⟨by rfl, ?_⟩) ?_ ?_
                              rotate_left
                              · intro w'
                                go_simp
                                first | with_reducible rfl | (rw [own_len_N ?hl_ ?hu_]; (case hl_ => assumption); (case hu_ => kernel_rfl); (try with_reducible rfl)) | (rw [own_len_R ?hl_ ?hu_]; (case hl_ => assumption); (case hu_ => kernel_rfl); (try with_reducible rfl))
                              rotate_left
                              · simp only [Act.put, List.setIfInBounds_toArray, List.set_cons_zero, List.set_cons_succ, i64_w, i32_w]
                                rfl
                              refine pure_ (i := 23) (N := some 52) (v := ?_) (a' := ?_) #[true, true, true, true, true, true, true, true, true, true, true, true, true, true, true, true, true, true, true, true, true, true, true, true] rfl rfl (any_of HT_.out (by kernel_rfl)) (fun _ _ _ h => h) (Or.inl ⟨by rfl, ?_⟩) ?_ ?_
                              rotate_left
                              · intro w'
                                go_simp
                                first | with_reducible rfl | (rw [own_len_N ?hl_ ?hu_]; (case hl_ => assumption); (case hu_ => kernel_rfl); (try with_reducible rfl)) | (rw [own_len_R ?hl_ ?hu_]; (case hl_ => assumption); (case hu_ => kernel_rfl); (try with_reducible rfl))
                              rotate_left
                              · simp only [Act.put, List.setIfInBounds_toArray, List.set_cons_zero, List.set_cons_succ, i64_w, i32_w]
                                rfl
                              refine done_ (done_of HT_.out (by kernel_rfl)) ?_
                              try go_wp2
                              go_roundg k2
                              case measure => have := HJ1.out; have := HK2.out; omega
                              case rel => exact ⟨(wrap64 (x26_2 + 1)), (by first | rfl | (simp; done) | (simp [*]; done)), H', ⟨by have := HJ1.out; have := HK2.out; omega⟩, ⟨by (with_reducible repeat (first | apply Kd.N_alloc | apply Kd.N_drewN | apply Kd.N_drew)); exact HO_3.out⟩, ⟨by (with_reducible repeat (first | refine blk_drewN ?_ _ | refine blk_drew ?_ | refine blk_alloc ?_ _)); exact BK632.out⟩, ⟨by repeat (first | (with_reducible first | exact HB.out | apply below_alloc | apply pw_below_drewN | apply below_drew1 | refine below_set ?_ GE632.out) | exact HB.out)⟩⟩
                          · rw [if_neg c27] at H
                            exact absurd H (by simp)
                        · rw [if_neg c26] at H
                          exact absurd H (by simp)
                      · rw [if_neg c24] at H
                        have c24b0 : decide (0 < x26_2) = false := decide_eq_false c24
                        clear c24
                        have H' := Aside0.mk H
                        clear H
                        try go_wp2
                        have n0_ := Aside0.mk (Kd.N_drew HO_3.out)
                        have n1_ := Aside0.mk (blk_drew BK632.out)
                        have n2_ := Aside0.mk (below_drew1 HB.out)
                        clear HO_3
                        clear BK632
                        clear HB
                        have HO_3 := n0_
                        have BK632 := n1_
                        have HB := n2_
                        clear n0_ n1_ n2_
                        have p642 : 0 ≤ (x26_2 : Int) := of_decide_eq_true (by first | (with_reducible assumption) | assumption)
                        have q642 : x26_2 < (t636.length : Int) := of_decide_eq_true (by first | (with_reducible assumption) | assumption)
                        obtain ⟨ad642, A642_0, c642_0, e642, hx642_0, hl642_0, hi642_0⟩ := at_L5 (Kd.N_reads' HO_3.out).2.2 x26_2 p642 q642
                        cases e642
                        obtain ⟨ce642, hce642, hMe642, hcc642⟩ := Kd.N_get HO_3.out [] x26_2 p642 (by first | exact q642 | exact of_decide_eq_true (by first | (with_reducible assumption) | assumption) | (have e_ := (Kd.N_reads' HO_3.out).1; omega))
                        obtain ⟨ua642_0, uc642_0, rfl, ul642_0, ge642_0⟩ := Kd.FK_slice_open hMe642
                        have hv642_0 := hcc642 0 _ rfl
                        rw [Nat.add_zero, show ((Kd.slice 3 (Kd.int .i64))).sz = 1 from rfl, Nat.mul_one] at hv642_0
                        replace hv642_0 := Option.some.inj (hv642_0.symm.trans hx642_0)
                        injection hv642_0 with hva_ hvn_ hvc_
                        rw [hva_] at ge642_0
                        rw [hvc_] at ul642_0
                        have HL642_0 := Aside0.mk (show Kd.V (Kd.int .i64) 3 _ w.heap.size _ _ (rd_L5 t636 x26_2) from Kd.V_mk ul642_0 ge642_0)
                        clear hva_ hvn_ hvc_ ge642_0 ul642_0
                        clear hcc642 hce642
                        have HR642_0 := Aside0.mk hi642_0
                        have HC642_0 := Aside0.mk hl642_0
                        clear hi642_0 hl642_0
                        replace p642 := eq_true p642
                        replace q642 := eq_true q642
                        refine start_ (n := 24) (S := fun w' => w'.cell? ⟨gb632, 0, none⟩ = some (.int .i64 a0_0) ∧ w'.cell? ⟨gb632, 1, none⟩ = some (.string a0_1) ∧ w'.cell? ⟨gb632, 2, none⟩ = some (.int .i64 a0_2) ∧ w'.cell? ⟨gb632, 3, none⟩ = some (.slice A0_3 l0_3.length c0_3) ∧ w'.cell? (ad642.add (x26_2).toNat) = some (.slice A642_0 (rd_L5 t636 x26_2).length c642_0)) (ds := []) #[false, false, false, false, false, false, false, false, false, false, false, false, false, false, false, false, false, false, false, false, false, false, false, false] (by kernel_rfl) rfl rfl ⟨(blk_cell BK632.out 0).trans rfl, (blk_cell BK632.out 1).trans rfl, (blk_cell BK632.out 2).trans rfl, (blk_cell BK632.out 3).trans rfl, hx642_0⟩ (fun hHeld => ?_); refine with_tabW vinculumlaw10_PositionComplete.tab9 vinculumlaw10_PositionComplete.bits9 (fun HT_ HW_ => ?_)
                        generalize wr.drew = w34 at HO_3 BK632 HB HL642_0 HR642_0 hx642_0 hHeld ⊢
                        refine pure_ (i := 1) (N := some 30) (v := ?_) (a' := ?_) #[false, true, false, false, false, false, false, false, false, false, false, false, false, false, false, false, false, false, false, false, false, false, false, false] rfl rfl (any_of HT_.out (by kernel_rfl)) (fun _ _ _ h => h) (Or.inl ⟨by rfl, ?_⟩) ?_ ?_
                        rotate_left
                        · intro w'
                          go_simp
                          first | with_reducible rfl | (rw [own_len_N ?hl_ ?hu_]; (case hl_ => assumption); (case hu_ => kernel_rfl); (try with_reducible rfl)) | (rw [own_len_R ?hl_ ?hu_]; (case hl_ => assumption); (case hu_ => kernel_rfl); (try with_reducible rfl))
                        rotate_left
                        · simp only [Act.put, List.setIfInBounds_toArray, List.set_cons_zero, List.set_cons_succ, i64_w, i32_w]
                          rfl
                        refine pure_ (i := 2) (N := some 31) (v := ?_) (a' := ?_) #[false, true, true, false, false, false, false, false, false, false, false, false, false, false, false, false, false, false, false, false, false, false, false, false] rfl rfl (any_of HT_.out (by kernel_rfl)) (fun _ _ _ h => h) (Or.inl ⟨by rfl, ?_⟩) ?_ ?_
                        rotate_left
                        · intro w'
                          go_simp
                          first | with_reducible rfl | (rw [own_len_N ?hl_ ?hu_]; (case hl_ => assumption); (case hu_ => kernel_rfl); (try with_reducible rfl)) | (rw [own_len_R ?hl_ ?hu_]; (case hl_ => assumption); (case hu_ => kernel_rfl); (try with_reducible rfl))
                        rotate_left
                        · simp only [Act.put, List.setIfInBounds_toArray, List.set_cons_zero, List.set_cons_succ, i64_w, i32_w]
                          rfl
                        refine pure_ (i := 3) (N := some 32) (v := ?_) (a' := ?_) #[false, true, true, true, false, false, false, false, false, false, false, false, false, false, false, false, false, false, false, false, false, false, false, false] rfl rfl (any_of HT_.out (by kernel_rfl)) (fun _ _ _ h => h) (Or.inl ⟨by rfl, ?_⟩) ?_ ?_
                        rotate_left
                        · intro w'
                          go_simp
                          first | with_reducible rfl | (rw [own_len_N ?hl_ ?hu_]; (case hl_ => assumption); (case hu_ => kernel_rfl); (try with_reducible rfl)) | (rw [own_len_R ?hl_ ?hu_]; (case hl_ => assumption); (case hu_ => kernel_rfl); (try with_reducible rfl))
                        rotate_left
                        · simp only [Act.put, List.setIfInBounds_toArray, List.set_cons_zero, List.set_cons_succ, i64_w, i32_w]
                          rfl
                        refine take_ (i := 0) (N := some 29) (v := ?_) (a' := ?_) #[true, true, true, true, false, false, false, false, false, false, false, false, false, false, false, false, false, false, false, false, false, false, false, false] rfl rfl (take_ofW HT_.out HW_.out (by kernel_rfl)) (fun _ _ _ h => h) (Or.inl ⟨by rfl, ?_⟩) hHeld ?_ ?_
                        rotate_left
                        · rintro w' ⟨s0, s1, s2, s3, s4⟩
                          go_simp
                          with_reducible rfl
                        rotate_left
                        · simp only [Act.put, List.setIfInBounds_toArray, List.set_cons_zero, List.set_cons_succ, i64_w, i32_w]
                          rfl
                        refine take_ (i := 4) (N := some 33) (v := ?_) (a' := ?_) #[true, true, true, true, true, false, false, false, false, false, false, false, false, false, false, false, false, false, false, false, false, false, false, false] rfl rfl (take_ofW HT_.out HW_.out (by kernel_rfl)) (fun _ _ _ h => h) (Or.inl ⟨by rfl, ?_⟩) hHeld ?_ ?_
                        rotate_left
                        · rintro w' ⟨s0, s1, s2, s3, s4⟩
                          go_simp
                          with_reducible rfl
                        rotate_left
                        · simp only [Act.put, List.setIfInBounds_toArray, List.set_cons_zero, List.set_cons_succ, i64_w, i32_w]
                          rfl
                        refine one_ (i := 5) (N := some 34) #[true, true, true, true, true, true, false, false, false, false, false, false, false, false, false, false, false, false, false, false, false, false, false, false] rfl rfl (one_of HT_.out (by kernel_rfl)) (by decide) (fun K hK => ?_)
                        refine goes_ Tryd.func41 (by kernel_rfl) rfl #[.agg #[.int .i64 a0_0, .string a0_1, .int .i64 a0_2, .slice A0_3 l0_3.length c0_3], .slice A642_0 (rd_L5 t636 x26_2).length c642_0] (by rfl) rfl rfl (by (try simp only [List.map_toArray, List.map_cons, List.map_nil]); first | done | rfl | (simp only [List.length_drop, List.length_take]; rfl)) ?_
                        with_reducible refine (position_Valid.calls k2 a0_0 a0_1 a0_2 _ _ l0_3 _ _ (rd_L5 t636 x26_2) true _ ?side1 ?side2 ?side3 ?side4 A22.out).mono ?_
                        (case side1 => repeat (first | exact (Kd.C_below HR0_3.out HB.out) | (with_reducible refine Kd.C_alloc ?_ _) | (with_reducible refine Kd.C_drewN ?_ _) | (with_reducible refine Kd.C_drew ?_)))
                        (case side2 => exact HC0_3.out)
                        (case side3 => repeat (first | exact (by repeat (first | (with_reducible exact HR642_0.out) | (with_reducible refine Kd.C_alloc ?_ _) | (with_reducible refine Kd.C_drewN ?_ _) | (with_reducible refine Kd.C_drew ?_) | exact HR642_0.out)) | (with_reducible refine Kd.C_alloc ?_ _) | (with_reducible refine Kd.C_drewN ?_ _) | (with_reducible refine Kd.C_drew ?_)))
                        (case side4 => exact HC642_0.out)
                        rintro e w35 ⟨rfl, hb⟩
                        have HS4_ := (hb.cell (World.block_lt_of_cell? _ _ (hHeld.2.2.2.2))).trans (hHeld.2.2.2.2)
                        refine ⟨_, rfl, ?_⟩
                        have n0_ := Aside0.mk (Kd.N_below (by (with_reducible repeat (first | apply Kd.N_alloc | apply Kd.N_drewN | apply Kd.N_drew)); exact HO_3.out) hb)
                        have n1_ := Aside0.mk (Kd.V_below (by (with_reducible repeat (first | apply Kd.V_alloc | apply Kd.V_drewN | apply Kd.V_drew)); exact HL642_0.out) hb)
                        have n2_ := Aside0.mk (blk_below (g := gb632) (o := .cells #[.int .i64 a0_0, .string a0_1, .int .i64 a0_2, .slice A0_3 l0_3.length c0_3] 36 (0, 0)) (by (with_reducible repeat (first | refine blk_drewN ?_ _ | refine blk_drew ?_ | refine blk_alloc ?_ _)); exact BK632.out) hb)
                        have n3_ := Aside0.mk (Kd.C_below (by repeat (first | (with_reducible exact HR642_0.out) | (with_reducible refine Kd.C_alloc ?_ _) | (with_reducible refine Kd.C_drewN ?_ _) | (with_reducible refine Kd.C_drew ?_) | exact HR642_0.out)) hb)
                        have n4_ := Aside0.mk (below_step (by repeat (first | (with_reducible first | exact HB.out | apply below_alloc | apply pw_below_drewN | apply below_drew1 | refine below_set ?_ GE632.out) | exact HB.out)) hb)
                        clear HO_3
                        clear HL642_0
                        clear BK632
                        clear HR642_0
                        clear HB
                        have HO_3 := n0_
                        have HL642_0 := n1_
                        have BK632 := n2_
                        have HR642_0 := n3_
                        have HB := n4_
                        clear n0_ n1_ n2_ n3_ n4_
                        (try replace HR642_0 := Aside0.mk (Kd.C_below HR642_0.out hb))
                        (try clear hb)
                        (try clear hb2)
                        (try clear hk)
                        (try clear hi)
                        refine hK.out _ _ ⟨(blk_cell BK632.out 0).trans rfl, (blk_cell BK632.out 1).trans rfl, (blk_cell BK632.out 2).trans rfl, (blk_cell BK632.out 3).trans rfl, HS4_⟩ (fun hHeld => ?_)
                        clear hK K
                        refine norm_ (a' := ?_) ?_ ?_
                        rotate_left
                        · show Act.put _ (some 34) _ = _
                          simp only [Act.put, List.setIfInBounds_toArray, List.set_cons_zero, List.set_cons_succ, i64_w, i32_w]
                          rfl
                        refine pure_ (i := 6) (N := some 35) (v := ?_) (a' := ?_) #[true, true, true, true, true, true, true, false, false, false, false, false, false, false, false, false, false, false, false, false, false, false, false, false] rfl rfl (any_of HT_.out (by kernel_rfl)) (fun _ _ _ h => h) (Or.inl ⟨by rfl, ?_⟩) ?_ ?_
                        rotate_left
                        · intro w'
                          go_simp
                          first | with_reducible rfl | (rw [own_len_N ?hl_ ?hu_]; (case hl_ => assumption); (case hu_ => kernel_rfl); (try with_reducible rfl)) | (rw [own_len_R ?hl_ ?hu_]; (case hl_ => assumption); (case hu_ => kernel_rfl); (try with_reducible rfl))
                        rotate_left
                        · simp only [Act.put, List.setIfInBounds_toArray, List.set_cons_zero, List.set_cons_succ, i64_w, i32_w]
                          rfl
                        refine pure_ (i := 7) (N := some 36) (v := ?_) (a' := ?_) #[true, true, true, true, true, true, true, true, false, false, false, false, false, false, false, false, false, false, false, false, false, false, false, false] rfl rfl (any_of HT_.out (by kernel_rfl)) (fun _ _ _ h => h) (Or.inl ⟨by rfl, ?_⟩) ?_ ?_
                        rotate_left
                        · intro w'
                          go_simp
                          first | with_reducible rfl | (rw [own_len_N ?hl_ ?hu_]; (case hl_ => assumption); (case hu_ => kernel_rfl); (try with_reducible rfl)) | (rw [own_len_R ?hl_ ?hu_]; (case hl_ => assumption); (case hu_ => kernel_rfl); (try with_reducible rfl))
                        rotate_left
                        · simp only [Act.put, List.setIfInBounds_toArray, List.set_cons_zero, List.set_cons_succ, i64_w, i32_w]
                          rfl
                        refine pure_ (i := 8) (N := some 37) (v := ?_) (a' := ?_) #[true, true, true, true, true, true, true, true, true, false, false, false, false, false, false, false, false, false, false, false, false, false, false, false] rfl rfl (any_of HT_.out (by kernel_rfl)) (fun _ _ _ h => h) (Or.inl ⟨by rfl, ?_⟩) ?_ ?_
                        rotate_left
                        · intro w'
                          go_simp
                          first | with_reducible rfl | (rw [own_len_N ?hl_ ?hu_]; (case hl_ => assumption); (case hu_ => kernel_rfl); (try with_reducible rfl)) | (rw [own_len_R ?hl_ ?hu_]; (case hl_ => assumption); (case hu_ => kernel_rfl); (try with_reducible rfl))
                        rotate_left
                        · simp only [Act.put, List.setIfInBounds_toArray, List.set_cons_zero, List.set_cons_succ, i64_w, i32_w]
                          rfl
                        refine pure_ (i := 9) (N := some 38) (v := ?_) (a' := ?_) #[true, true, true, true, true, true, true, true, true, true, false, false, false, false, false, false, false, false, false, false, false, false, false, false] rfl rfl (any_of HT_.out (by kernel_rfl)) (fun _ _ _ h => h) (Or.inl ⟨by rfl, ?_⟩) ?_ ?_
                        rotate_left
                        · intro w'
                          go_simp
                          first | with_reducible rfl | (rw [own_len_N ?hl_ ?hu_]; (case hl_ => assumption); (case hu_ => kernel_rfl); (try with_reducible rfl)) | (rw [own_len_R ?hl_ ?hu_]; (case hl_ => assumption); (case hu_ => kernel_rfl); (try with_reducible rfl))
                        rotate_left
                        · simp only [Act.put, List.setIfInBounds_toArray, List.set_cons_zero, List.set_cons_succ, i64_w, i32_w]
                          rfl
                        refine pure_ (i := 10) (N := some 39) (v := ?_) (a' := ?_) #[true, true, true, true, true, true, true, true, true, true, true, false, false, false, false, false, false, false, false, false, false, false, false, false] rfl rfl (any_of HT_.out (by kernel_rfl)) (fun _ _ _ h => h) (Or.inl ⟨by rfl, ?_⟩) ?_ ?_
                        rotate_left
                        · intro w'
                          go_simp
                          first | with_reducible rfl | (rw [own_len_N ?hl_ ?hu_]; (case hl_ => assumption); (case hu_ => kernel_rfl); (try with_reducible rfl)) | (rw [own_len_R ?hl_ ?hu_]; (case hl_ => assumption); (case hu_ => kernel_rfl); (try with_reducible rfl))
                        rotate_left
                        · simp only [Act.put, List.setIfInBounds_toArray, List.set_cons_zero, List.set_cons_succ, i64_w, i32_w]
                          rfl
                        refine pure_ (i := 11) (N := some 40) (v := undef) (a' := ?_) #[true, true, true, true, true, true, true, true, true, true, true, true, false, false, false, false, false, false, false, false, false, false, false, false] rfl rfl (any_of HT_.out (by kernel_rfl)) (fun _ _ _ h => h) (Or.inr ⟨by rfl, rfl⟩) ?_ ?_
                        rotate_left
                        · simp only [Act.put, List.setIfInBounds_toArray, List.set_cons_zero, List.set_cons_succ, i64_w, i32_w]
                          rfl
                        refine pure_ (i := 12) (N := some 41) (v := undef) (a' := ?_) #[true, true, true, true, true, true, true, true, true, true, true, true, true, false, false, false, false, false, false, false, false, false, false, false] rfl rfl (any_of HT_.out (by kernel_rfl)) (fun _ _ _ h => h) (Or.inr ⟨by rfl, rfl⟩) ?_ ?_
                        rotate_left
                        · simp only [Act.put, List.setIfInBounds_toArray, List.set_cons_zero, List.set_cons_succ, i64_w, i32_w]
                          rfl
                        refine pure_ (i := 13) (N := some 42) (v := undef) (a' := ?_) #[true, true, true, true, true, true, true, true, true, true, true, true, true, true, false, false, false, false, false, false, false, false, false, false] rfl rfl (any_of HT_.out (by kernel_rfl)) (fun _ _ _ h => h) (Or.inr ⟨by rfl, rfl⟩) ?_ ?_
                        rotate_left
                        · simp only [Act.put, List.setIfInBounds_toArray, List.set_cons_zero, List.set_cons_succ, i64_w, i32_w]
                          rfl
                        refine pure_ (i := 14) (N := some 43) (v := undef) (a' := ?_) #[true, true, true, true, true, true, true, true, true, true, true, true, true, true, true, false, false, false, false, false, false, false, false, false] rfl rfl (any_of HT_.out (by kernel_rfl)) (fun _ _ _ h => h) (Or.inr ⟨by rfl, rfl⟩) ?_ ?_
                        rotate_left
                        · simp only [Act.put, List.setIfInBounds_toArray, List.set_cons_zero, List.set_cons_succ, i64_w, i32_w]
                          rfl
                        refine pure_ (i := 15) (N := some 44) (v := undef) (a' := ?_) #[true, true, true, true, true, true, true, true, true, true, true, true, true, true, true, true, false, false, false, false, false, false, false, false] rfl rfl (any_of HT_.out (by kernel_rfl)) (fun _ _ _ h => h) (Or.inr ⟨by rfl, rfl⟩) ?_ ?_
                        rotate_left
                        · simp only [Act.put, List.setIfInBounds_toArray, List.set_cons_zero, List.set_cons_succ, i64_w, i32_w]
                          rfl
                        refine pure_ (i := 16) (N := some 45) (v := undef) (a' := ?_) #[true, true, true, true, true, true, true, true, true, true, true, true, true, true, true, true, true, false, false, false, false, false, false, false] rfl rfl (any_of HT_.out (by kernel_rfl)) (fun _ _ _ h => h) (Or.inr ⟨by rfl, rfl⟩) ?_ ?_
                        rotate_left
                        · simp only [Act.put, List.setIfInBounds_toArray, List.set_cons_zero, List.set_cons_succ, i64_w, i32_w]
                          rfl
                        refine pure_ (i := 17) (N := some 46) (v := undef) (a' := ?_) #[true, true, true, true, true, true, true, true, true, true, true, true, true, true, true, true, true, true, false, false, false, false, false, false] rfl rfl (any_of HT_.out (by kernel_rfl)) (fun _ _ _ h => h) (Or.inr ⟨by rfl, rfl⟩) ?_ ?_
                        rotate_left
                        · simp only [Act.put, List.setIfInBounds_toArray, List.set_cons_zero, List.set_cons_succ, i64_w, i32_w]
                          rfl
                        refine pure_ (i := 18) (N := some 47) (v := undef) (a' := ?_) #[true, true, true, true, true, true, true, true, true, true, true, true, true, true, true, true, true, true, true, false, false, false, false, false] rfl rfl (any_of HT_.out (by kernel_rfl)) (fun _ _ _ h => h) (Or.inr ⟨by rfl, rfl⟩) ?_ ?_
                        rotate_left
                        · simp only [Act.put, List.setIfInBounds_toArray, List.set_cons_zero, List.set_cons_succ, i64_w, i32_w]
                          rfl
                        refine pure_ (i := 19) (N := some 48) (v := undef) (a' := ?_) #[true, true, true, true, true, true, true, true, true, true, true, true, true, true, true, true, true, true, true, true, false, false, false, false] rfl rfl (any_of HT_.out (by kernel_rfl)) (fun _ _ _ h => h) (Or.inr ⟨by rfl, rfl⟩) ?_ ?_
                        rotate_left
                        · simp only [Act.put, List.setIfInBounds_toArray, List.set_cons_zero, List.set_cons_succ, i64_w, i32_w]
                          rfl
                        refine pure_ (i := 20) (N := some 49) (v := undef) (a' := ?_) #[true, true, true, true, true, true, true, true, true, true, true, true, true, true, true, true, true, true, true, true, true, false, false, false] rfl rfl (any_of HT_.out (by kernel_rfl)) (fun _ _ _ h => h) (Or.inr ⟨by rfl, rfl⟩) ?_ ?_
                        rotate_left
                        · simp only [Act.put, List.setIfInBounds_toArray, List.set_cons_zero, List.set_cons_succ, i64_w, i32_w]
                          rfl
                        refine pure_ (i := 21) (N := some 50) (v := undef) (a' := ?_) #[true, true, true, true, true, true, true, true, true, true, true, true, true, true, true, true, true, true, true, true, true, true, false, false] rfl rfl (any_of HT_.out (by kernel_rfl)) (fun _ _ _ h => h) (Or.inr ⟨by rfl, rfl⟩) ?_ ?_
                        rotate_left
                        · simp only [Act.put, List.setIfInBounds_toArray, List.set_cons_zero, List.set_cons_succ, i64_w, i32_w]
                          rfl
                        refine pure_ (i := 22) (N := some 51) (v := ?_) (a' := ?_) #[true, true, true, true, true, true, true, true, true, true, true, true, true, true, true, true, true, true, true, true, true, true, true, false] rfl rfl (any_of HT_.out (by kernel_rfl)) (fun _ _ _ h => h) (Or.inl ⟨by rfl, ?_⟩) ?_ ?_
                        rotate_left
                        · intro w'
                          go_simp
                          first | with_reducible rfl | (rw [own_len_N ?hl_ ?hu_]; (case hl_ => assumption); (case hu_ => kernel_rfl); (try with_reducible rfl)) | (rw [own_len_R ?hl_ ?hu_]; (case hl_ => assumption); (case hu_ => kernel_rfl); (try with_reducible rfl))
                        rotate_left
                        · simp only [Act.put, List.setIfInBounds_toArray, List.set_cons_zero, List.set_cons_succ, i64_w, i32_w]
                          rfl
                        refine pure_ (i := 23) (N := some 52) (v := ?_) (a' := ?_) #[true, true, true, true, true, true, true, true, true, true, true, true, true, true, true, true, true, true, true, true, true, true, true, true] rfl rfl (any_of HT_.out (by kernel_rfl)) (fun _ _ _ h => h) (Or.inl ⟨by rfl, ?_⟩) ?_ ?_
                        rotate_left
                        · intro w'
                          go_simp
                          first | with_reducible rfl | (rw [own_len_N ?hl_ ?hu_]; (case hl_ => assumption); (case hu_ => kernel_rfl); (try with_reducible rfl)) | (rw [own_len_R ?hl_ ?hu_]; (case hl_ => assumption); (case hu_ => kernel_rfl); (try with_reducible rfl))
                        rotate_left
                        · simp only [Act.put, List.setIfInBounds_toArray, List.set_cons_zero, List.set_cons_succ, i64_w, i32_w]
                          rfl
                        refine done_ (done_of HT_.out (by kernel_rfl)) ?_
                        try go_wp2
                        go_roundg k2
                        case measure => have := HJ1.out; have := HK2.out; omega
                        case rel => exact ⟨(wrap64 (x26_2 + 1)), (by first | rfl | (simp; done) | (simp [*]; done)), H', ⟨by have := HJ1.out; have := HK2.out; omega⟩, ⟨by (with_reducible repeat (first | apply Kd.N_alloc | apply Kd.N_drewN | apply Kd.N_drew)); exact HO_3.out⟩, ⟨by (with_reducible repeat (first | refine blk_drewN ?_ _ | refine blk_drew ?_ | refine blk_alloc ?_ _)); exact BK632.out⟩, ⟨by repeat (first | (with_reducible first | exact HB.out | apply below_alloc | apply pw_below_drewN | apply below_drew1 | refine below_set ?_ GE632.out) | exact HB.out)⟩⟩
                    · replace c23 := Bool.eq_false_iff.mpr c23
                      subst c23
                      have H1 : (some false) = some r := by rw [if_neg (show ¬ (false = true) by decide)] at H; exact H
                      clear H
                      have H := H1
                      clear H1
                      obtain rfl := Option.some.inj H
                      try go_wp2
                      have n0_ := Aside0.mk (Kd.N_drew HO_3.out)
                      have n1_ := Aside0.mk (blk_drew BK632.out)
                      have n2_ := Aside0.mk (below_drew1 HB.out)
                      clear HO_3
                      clear BK632
                      clear HB
                      have HO_3 := n0_
                      have BK632 := n1_
                      have HB := n2_
                      clear n0_ n1_ n2_
                      have p642 : 0 ≤ (x26_2 : Int) := of_decide_eq_true (by first | (with_reducible assumption) | assumption)
                      have q642 : x26_2 < (t636.length : Int) := of_decide_eq_true (by first | (with_reducible assumption) | assumption)
                      obtain ⟨ad642, A642_0, c642_0, e642, hx642_0, hl642_0, hi642_0⟩ := at_L5 (Kd.N_reads' HO_3.out).2.2 x26_2 p642 q642
                      cases e642
                      obtain ⟨ce642, hce642, hMe642, hcc642⟩ := Kd.N_get HO_3.out [] x26_2 p642 (by first | exact q642 | exact of_decide_eq_true (by first | (with_reducible assumption) | assumption) | (have e_ := (Kd.N_reads' HO_3.out).1; omega))
                      obtain ⟨ua642_0, uc642_0, rfl, ul642_0, ge642_0⟩ := Kd.FK_slice_open hMe642
                      have hv642_0 := hcc642 0 _ rfl
                      rw [Nat.add_zero, show ((Kd.slice 3 (Kd.int .i64))).sz = 1 from rfl, Nat.mul_one] at hv642_0
                      replace hv642_0 := Option.some.inj (hv642_0.symm.trans hx642_0)
                      injection hv642_0 with hva_ hvn_ hvc_
                      rw [hva_] at ge642_0
                      rw [hvc_] at ul642_0
                      have HL642_0 := Aside0.mk (show Kd.V (Kd.int .i64) 3 _ w.heap.size _ _ (rd_L5 t636 x26_2) from Kd.V_mk ul642_0 ge642_0)
                      clear hva_ hvn_ hvc_ ge642_0 ul642_0
                      clear hcc642 hce642
                      have HR642_0 := Aside0.mk hi642_0
                      have HC642_0 := Aside0.mk hl642_0
                      clear hi642_0 hl642_0
                      replace p642 := eq_true p642
                      replace q642 := eq_true q642
                      refine start_ (n := 24) (S := fun w' => w'.cell? ⟨gb632, 0, none⟩ = some (.int .i64 a0_0) ∧ w'.cell? ⟨gb632, 1, none⟩ = some (.string a0_1) ∧ w'.cell? ⟨gb632, 2, none⟩ = some (.int .i64 a0_2) ∧ w'.cell? ⟨gb632, 3, none⟩ = some (.slice A0_3 l0_3.length c0_3) ∧ w'.cell? (ad642.add (x26_2).toNat) = some (.slice A642_0 (rd_L5 t636 x26_2).length c642_0)) (ds := []) #[false, false, false, false, false, false, false, false, false, false, false, false, false, false, false, false, false, false, false, false, false, false, false, false] (by kernel_rfl) rfl rfl ⟨(blk_cell BK632.out 0).trans rfl, (blk_cell BK632.out 1).trans rfl, (blk_cell BK632.out 2).trans rfl, (blk_cell BK632.out 3).trans rfl, hx642_0⟩ (fun hHeld => ?_); refine with_tabW vinculumlaw10_PositionComplete.tab9 vinculumlaw10_PositionComplete.bits9 (fun HT_ HW_ => ?_)
                      generalize wr.drew = w36 at HO_3 BK632 HB HL642_0 HR642_0 hx642_0 hHeld ⊢
                      refine pure_ (i := 1) (N := some 30) (v := ?_) (a' := ?_) #[false, true, false, false, false, false, false, false, false, false, false, false, false, false, false, false, false, false, false, false, false, false, false, false] rfl rfl (any_of HT_.out (by kernel_rfl)) (fun _ _ _ h => h) (Or.inl ⟨by rfl, ?_⟩) ?_ ?_
                      rotate_left
                      · intro w'
                        go_simp
                        first | with_reducible rfl | (rw [own_len_N ?hl_ ?hu_]; (case hl_ => assumption); (case hu_ => kernel_rfl); (try with_reducible rfl)) | (rw [own_len_R ?hl_ ?hu_]; (case hl_ => assumption); (case hu_ => kernel_rfl); (try with_reducible rfl))
                      rotate_left
                      · simp only [Act.put, List.setIfInBounds_toArray, List.set_cons_zero, List.set_cons_succ, i64_w, i32_w]
                        rfl
                      refine pure_ (i := 2) (N := some 31) (v := ?_) (a' := ?_) #[false, true, true, false, false, false, false, false, false, false, false, false, false, false, false, false, false, false, false, false, false, false, false, false] rfl rfl (any_of HT_.out (by kernel_rfl)) (fun _ _ _ h => h) (Or.inl ⟨by rfl, ?_⟩) ?_ ?_
                      rotate_left
                      · intro w'
                        go_simp
                        first | with_reducible rfl | (rw [own_len_N ?hl_ ?hu_]; (case hl_ => assumption); (case hu_ => kernel_rfl); (try with_reducible rfl)) | (rw [own_len_R ?hl_ ?hu_]; (case hl_ => assumption); (case hu_ => kernel_rfl); (try with_reducible rfl))
                      rotate_left
                      · simp only [Act.put, List.setIfInBounds_toArray, List.set_cons_zero, List.set_cons_succ, i64_w, i32_w]
                        rfl
                      refine pure_ (i := 3) (N := some 32) (v := ?_) (a' := ?_) #[false, true, true, true, false, false, false, false, false, false, false, false, false, false, false, false, false, false, false, false, false, false, false, false] rfl rfl (any_of HT_.out (by kernel_rfl)) (fun _ _ _ h => h) (Or.inl ⟨by rfl, ?_⟩) ?_ ?_
                      rotate_left
                      · intro w'
                        go_simp
                        first | with_reducible rfl | (rw [own_len_N ?hl_ ?hu_]; (case hl_ => assumption); (case hu_ => kernel_rfl); (try with_reducible rfl)) | (rw [own_len_R ?hl_ ?hu_]; (case hl_ => assumption); (case hu_ => kernel_rfl); (try with_reducible rfl))
                      rotate_left
                      · simp only [Act.put, List.setIfInBounds_toArray, List.set_cons_zero, List.set_cons_succ, i64_w, i32_w]
                        rfl
                      refine take_ (i := 0) (N := some 29) (v := ?_) (a' := ?_) #[true, true, true, true, false, false, false, false, false, false, false, false, false, false, false, false, false, false, false, false, false, false, false, false] rfl rfl (take_ofW HT_.out HW_.out (by kernel_rfl)) (fun _ _ _ h => h) (Or.inl ⟨by rfl, ?_⟩) hHeld ?_ ?_
                      rotate_left
                      · rintro w' ⟨s0, s1, s2, s3, s4⟩
                        go_simp
                        with_reducible rfl
                      rotate_left
                      · simp only [Act.put, List.setIfInBounds_toArray, List.set_cons_zero, List.set_cons_succ, i64_w, i32_w]
                        rfl
                      refine take_ (i := 4) (N := some 33) (v := ?_) (a' := ?_) #[true, true, true, true, true, false, false, false, false, false, false, false, false, false, false, false, false, false, false, false, false, false, false, false] rfl rfl (take_ofW HT_.out HW_.out (by kernel_rfl)) (fun _ _ _ h => h) (Or.inl ⟨by rfl, ?_⟩) hHeld ?_ ?_
                      rotate_left
                      · rintro w' ⟨s0, s1, s2, s3, s4⟩
                        go_simp
                        with_reducible rfl
                      rotate_left
                      · simp only [Act.put, List.setIfInBounds_toArray, List.set_cons_zero, List.set_cons_succ, i64_w, i32_w]
                        rfl
                      refine one_ (i := 5) (N := some 34) #[true, true, true, true, true, true, false, false, false, false, false, false, false, false, false, false, false, false, false, false, false, false, false, false] rfl rfl (one_of HT_.out (by kernel_rfl)) (by decide) (fun K hK => ?_)
                      refine goes_ Tryd.func41 (by kernel_rfl) rfl #[.agg #[.int .i64 a0_0, .string a0_1, .int .i64 a0_2, .slice A0_3 l0_3.length c0_3], .slice A642_0 (rd_L5 t636 x26_2).length c642_0] (by rfl) rfl rfl (by (try simp only [List.map_toArray, List.map_cons, List.map_nil]); first | done | rfl | (simp only [List.length_drop, List.length_take]; rfl)) ?_
                      with_reducible refine (position_Valid.calls k2 a0_0 a0_1 a0_2 _ _ l0_3 _ _ (rd_L5 t636 x26_2) false _ ?side1 ?side2 ?side3 ?side4 A22.out).mono ?_
                      (case side1 => repeat (first | exact (Kd.C_below HR0_3.out HB.out) | (with_reducible refine Kd.C_alloc ?_ _) | (with_reducible refine Kd.C_drewN ?_ _) | (with_reducible refine Kd.C_drew ?_)))
                      (case side2 => exact HC0_3.out)
                      (case side3 => repeat (first | exact (by repeat (first | (with_reducible exact HR642_0.out) | (with_reducible refine Kd.C_alloc ?_ _) | (with_reducible refine Kd.C_drewN ?_ _) | (with_reducible refine Kd.C_drew ?_) | exact HR642_0.out)) | (with_reducible refine Kd.C_alloc ?_ _) | (with_reducible refine Kd.C_drewN ?_ _) | (with_reducible refine Kd.C_drew ?_)))
                      (case side4 => exact HC642_0.out)
                      rintro e w37 ⟨rfl, hb⟩
                      have HS4_ := (hb.cell (World.block_lt_of_cell? _ _ (hHeld.2.2.2.2))).trans (hHeld.2.2.2.2)
                      refine ⟨_, rfl, ?_⟩
                      have n0_ := Aside0.mk (Kd.N_below (by (with_reducible repeat (first | apply Kd.N_alloc | apply Kd.N_drewN | apply Kd.N_drew)); exact HO_3.out) hb)
                      have n1_ := Aside0.mk (Kd.V_below (by (with_reducible repeat (first | apply Kd.V_alloc | apply Kd.V_drewN | apply Kd.V_drew)); exact HL642_0.out) hb)
                      have n2_ := Aside0.mk (blk_below (g := gb632) (o := .cells #[.int .i64 a0_0, .string a0_1, .int .i64 a0_2, .slice A0_3 l0_3.length c0_3] 36 (0, 0)) (by (with_reducible repeat (first | refine blk_drewN ?_ _ | refine blk_drew ?_ | refine blk_alloc ?_ _)); exact BK632.out) hb)
                      have n3_ := Aside0.mk (Kd.C_below (by repeat (first | (with_reducible exact HR642_0.out) | (with_reducible refine Kd.C_alloc ?_ _) | (with_reducible refine Kd.C_drewN ?_ _) | (with_reducible refine Kd.C_drew ?_) | exact HR642_0.out)) hb)
                      have n4_ := Aside0.mk (below_step (by repeat (first | (with_reducible first | exact HB.out | apply below_alloc | apply pw_below_drewN | apply below_drew1 | refine below_set ?_ GE632.out) | exact HB.out)) hb)
                      clear HO_3
                      clear HL642_0
                      clear BK632
                      clear HR642_0
                      clear HB
                      have HO_3 := n0_
                      have HL642_0 := n1_
                      have BK632 := n2_
                      have HR642_0 := n3_
                      have HB := n4_
                      clear n0_ n1_ n2_ n3_ n4_
                      (try replace HR642_0 := Aside0.mk (Kd.C_below HR642_0.out hb))
                      (try clear hb)
                      (try clear hb2)
                      (try clear hk)
                      (try clear hi)
                      refine hK.out _ _ ⟨(blk_cell BK632.out 0).trans rfl, (blk_cell BK632.out 1).trans rfl, (blk_cell BK632.out 2).trans rfl, (blk_cell BK632.out 3).trans rfl, HS4_⟩ (fun hHeld => ?_)
                      clear hK K
                      refine norm_ (a' := ?_) ?_ ?_
                      rotate_left
                      · show Act.put _ (some 34) _ = _
                        simp only [Act.put, List.setIfInBounds_toArray, List.set_cons_zero, List.set_cons_succ, i64_w, i32_w]
                        rfl
                      refine pure_ (i := 6) (N := some 35) (v := ?_) (a' := ?_) #[true, true, true, true, true, true, true, false, false, false, false, false, false, false, false, false, false, false, false, false, false, false, false, false] rfl rfl (any_of HT_.out (by kernel_rfl)) (fun _ _ _ h => h) (Or.inl ⟨by rfl, ?_⟩) ?_ ?_
                      rotate_left
                      · intro w'
                        go_simp
                        first | with_reducible rfl | (rw [own_len_N ?hl_ ?hu_]; (case hl_ => assumption); (case hu_ => kernel_rfl); (try with_reducible rfl)) | (rw [own_len_R ?hl_ ?hu_]; (case hl_ => assumption); (case hu_ => kernel_rfl); (try with_reducible rfl))
                      rotate_left
                      · simp only [Act.put, List.setIfInBounds_toArray, List.set_cons_zero, List.set_cons_succ, i64_w, i32_w]
                        rfl
                      refine pure_ (i := 7) (N := some 36) (v := ?_) (a' := ?_) #[true, true, true, true, true, true, true, true, false, false, false, false, false, false, false, false, false, false, false, false, false, false, false, false] rfl rfl (any_of HT_.out (by kernel_rfl)) (fun _ _ _ h => h) (Or.inl ⟨by rfl, ?_⟩) ?_ ?_
                      rotate_left
                      · intro w'
                        go_simp
                        first | with_reducible rfl | (rw [own_len_N ?hl_ ?hu_]; (case hl_ => assumption); (case hu_ => kernel_rfl); (try with_reducible rfl)) | (rw [own_len_R ?hl_ ?hu_]; (case hl_ => assumption); (case hu_ => kernel_rfl); (try with_reducible rfl))
                      rotate_left
                      · simp only [Act.put, List.setIfInBounds_toArray, List.set_cons_zero, List.set_cons_succ, i64_w, i32_w]
                        rfl
                      refine pure_ (i := 8) (N := some 37) (v := undef) (a' := ?_) #[true, true, true, true, true, true, true, true, true, false, false, false, false, false, false, false, false, false, false, false, false, false, false, false] rfl rfl (any_of HT_.out (by kernel_rfl)) (fun _ _ _ h => h) (Or.inr ⟨by rfl, rfl⟩) ?_ ?_
                      rotate_left
                      · simp only [Act.put, List.setIfInBounds_toArray, List.set_cons_zero, List.set_cons_succ, i64_w, i32_w]
                        rfl
                      refine pure_ (i := 9) (N := some 38) (v := undef) (a' := ?_) #[true, true, true, true, true, true, true, true, true, true, false, false, false, false, false, false, false, false, false, false, false, false, false, false] rfl rfl (any_of HT_.out (by kernel_rfl)) (fun _ _ _ h => h) (Or.inr ⟨by rfl, rfl⟩) ?_ ?_
                      rotate_left
                      · simp only [Act.put, List.setIfInBounds_toArray, List.set_cons_zero, List.set_cons_succ, i64_w, i32_w]
                        rfl
                      refine pure_ (i := 10) (N := some 39) (v := undef) (a' := ?_) #[true, true, true, true, true, true, true, true, true, true, true, false, false, false, false, false, false, false, false, false, false, false, false, false] rfl rfl (any_of HT_.out (by kernel_rfl)) (fun _ _ _ h => h) (Or.inr ⟨by rfl, rfl⟩) ?_ ?_
                      rotate_left
                      · simp only [Act.put, List.setIfInBounds_toArray, List.set_cons_zero, List.set_cons_succ, i64_w, i32_w]
                        rfl
                      refine pure_ (i := 11) (N := some 40) (v := undef) (a' := ?_) #[true, true, true, true, true, true, true, true, true, true, true, true, false, false, false, false, false, false, false, false, false, false, false, false] rfl rfl (any_of HT_.out (by kernel_rfl)) (fun _ _ _ h => h) (Or.inr ⟨by rfl, rfl⟩) ?_ ?_
                      rotate_left
                      · simp only [Act.put, List.setIfInBounds_toArray, List.set_cons_zero, List.set_cons_succ, i64_w, i32_w]
                        rfl
                      refine pure_ (i := 12) (N := some 41) (v := undef) (a' := ?_) #[true, true, true, true, true, true, true, true, true, true, true, true, true, false, false, false, false, false, false, false, false, false, false, false] rfl rfl (any_of HT_.out (by kernel_rfl)) (fun _ _ _ h => h) (Or.inr ⟨by rfl, rfl⟩) ?_ ?_
                      rotate_left
                      · simp only [Act.put, List.setIfInBounds_toArray, List.set_cons_zero, List.set_cons_succ, i64_w, i32_w]
                        rfl
                      refine pure_ (i := 13) (N := some 42) (v := undef) (a' := ?_) #[true, true, true, true, true, true, true, true, true, true, true, true, true, true, false, false, false, false, false, false, false, false, false, false] rfl rfl (any_of HT_.out (by kernel_rfl)) (fun _ _ _ h => h) (Or.inr ⟨by rfl, rfl⟩) ?_ ?_
                      rotate_left
                      · simp only [Act.put, List.setIfInBounds_toArray, List.set_cons_zero, List.set_cons_succ, i64_w, i32_w]
                        rfl
                      refine pure_ (i := 14) (N := some 43) (v := undef) (a' := ?_) #[true, true, true, true, true, true, true, true, true, true, true, true, true, true, true, false, false, false, false, false, false, false, false, false] rfl rfl (any_of HT_.out (by kernel_rfl)) (fun _ _ _ h => h) (Or.inr ⟨by rfl, rfl⟩) ?_ ?_
                      rotate_left
                      · simp only [Act.put, List.setIfInBounds_toArray, List.set_cons_zero, List.set_cons_succ, i64_w, i32_w]
                        rfl
                      refine pure_ (i := 15) (N := some 44) (v := undef) (a' := ?_) #[true, true, true, true, true, true, true, true, true, true, true, true, true, true, true, true, false, false, false, false, false, false, false, false] rfl rfl (any_of HT_.out (by kernel_rfl)) (fun _ _ _ h => h) (Or.inr ⟨by rfl, rfl⟩) ?_ ?_
                      rotate_left
                      · simp only [Act.put, List.setIfInBounds_toArray, List.set_cons_zero, List.set_cons_succ, i64_w, i32_w]
                        rfl
                      refine pure_ (i := 16) (N := some 45) (v := undef) (a' := ?_) #[true, true, true, true, true, true, true, true, true, true, true, true, true, true, true, true, true, false, false, false, false, false, false, false] rfl rfl (any_of HT_.out (by kernel_rfl)) (fun _ _ _ h => h) (Or.inr ⟨by rfl, rfl⟩) ?_ ?_
                      rotate_left
                      · simp only [Act.put, List.setIfInBounds_toArray, List.set_cons_zero, List.set_cons_succ, i64_w, i32_w]
                        rfl
                      refine pure_ (i := 17) (N := some 46) (v := undef) (a' := ?_) #[true, true, true, true, true, true, true, true, true, true, true, true, true, true, true, true, true, true, false, false, false, false, false, false] rfl rfl (any_of HT_.out (by kernel_rfl)) (fun _ _ _ h => h) (Or.inr ⟨by rfl, rfl⟩) ?_ ?_
                      rotate_left
                      · simp only [Act.put, List.setIfInBounds_toArray, List.set_cons_zero, List.set_cons_succ, i64_w, i32_w]
                        rfl
                      refine pure_ (i := 18) (N := some 47) (v := undef) (a' := ?_) #[true, true, true, true, true, true, true, true, true, true, true, true, true, true, true, true, true, true, true, false, false, false, false, false] rfl rfl (any_of HT_.out (by kernel_rfl)) (fun _ _ _ h => h) (Or.inr ⟨by rfl, rfl⟩) ?_ ?_
                      rotate_left
                      · simp only [Act.put, List.setIfInBounds_toArray, List.set_cons_zero, List.set_cons_succ, i64_w, i32_w]
                        rfl
                      refine pure_ (i := 19) (N := some 48) (v := undef) (a' := ?_) #[true, true, true, true, true, true, true, true, true, true, true, true, true, true, true, true, true, true, true, true, false, false, false, false] rfl rfl (any_of HT_.out (by kernel_rfl)) (fun _ _ _ h => h) (Or.inr ⟨by rfl, rfl⟩) ?_ ?_
                      rotate_left
                      · simp only [Act.put, List.setIfInBounds_toArray, List.set_cons_zero, List.set_cons_succ, i64_w, i32_w]
                        rfl
                      refine pure_ (i := 20) (N := some 49) (v := undef) (a' := ?_) #[true, true, true, true, true, true, true, true, true, true, true, true, true, true, true, true, true, true, true, true, true, false, false, false] rfl rfl (any_of HT_.out (by kernel_rfl)) (fun _ _ _ h => h) (Or.inr ⟨by rfl, rfl⟩) ?_ ?_
                      rotate_left
                      · simp only [Act.put, List.setIfInBounds_toArray, List.set_cons_zero, List.set_cons_succ, i64_w, i32_w]
                        rfl
                      refine pure_ (i := 21) (N := some 50) (v := undef) (a' := ?_) #[true, true, true, true, true, true, true, true, true, true, true, true, true, true, true, true, true, true, true, true, true, true, false, false] rfl rfl (any_of HT_.out (by kernel_rfl)) (fun _ _ _ h => h) (Or.inr ⟨by rfl, rfl⟩) ?_ ?_
                      rotate_left
                      · simp only [Act.put, List.setIfInBounds_toArray, List.set_cons_zero, List.set_cons_succ, i64_w, i32_w]
                        rfl
                      refine pure_ (i := 22) (N := some 51) (v := undef) (a' := ?_) #[true, true, true, true, true, true, true, true, true, true, true, true, true, true, true, true, true, true, true, true, true, true, true, false] rfl rfl (any_of HT_.out (by kernel_rfl)) (fun _ _ _ h => h) (Or.inr ⟨by rfl, rfl⟩) ?_ ?_
                      rotate_left
                      · simp only [Act.put, List.setIfInBounds_toArray, List.set_cons_zero, List.set_cons_succ, i64_w, i32_w]
                        rfl
                      refine pure_ (i := 23) (N := some 52) (v := ?_) (a' := ?_) #[true, true, true, true, true, true, true, true, true, true, true, true, true, true, true, true, true, true, true, true, true, true, true, true] rfl rfl (any_of HT_.out (by kernel_rfl)) (fun _ _ _ h => h) (Or.inl ⟨by rfl, ?_⟩) ?_ ?_
                      rotate_left
                      · intro w'
                        go_simp
                        first | with_reducible rfl | (rw [own_len_N ?hl_ ?hu_]; (case hl_ => assumption); (case hu_ => kernel_rfl); (try with_reducible rfl)) | (rw [own_len_R ?hl_ ?hu_]; (case hl_ => assumption); (case hu_ => kernel_rfl); (try with_reducible rfl))
                      rotate_left
                      · simp only [Act.put, List.setIfInBounds_toArray, List.set_cons_zero, List.set_cons_succ, i64_w, i32_w]
                        rfl
                      refine done_ (done_of HT_.out (by kernel_rfl)) ?_
                      try go_wp2
                      go_ret
                      exact ⟨by first | rfl | (simp [errW_none, errW_some] <;> rfl) | (simp [*, errW_none, errW_some] <;> rfl), by repeat (first | (with_reducible first | exact HB.out | apply below_alloc | apply pw_below_drewN | apply below_drew1 | refine below_set ?_ GE632.out) | exact HB.out)⟩
                  · rw [if_neg c21] at H
                    exact absurd H (by simp)
                · rw [if_neg c20] at H
                  exact absurd H (by simp)
              · rw [if_neg c19] at H
                have c19b0 : decide (x26_2 < (t636.length : Int)) = false := decide_eq_false c19
                clear c19
                replace H := Option.bind_eq_some_iff.mp H
                obtain ⟨t640, A380, H⟩ := H
                replace H : (if (t636.length : Int) = t640 then ((position_Count.f k2 a0_0 a0_1 a0_2 l0_3).bind fun t641 => (some (t641 == (t636.length : Int)))) else (some false)) = some r := H
                have A38 := Aside0.mk A380
                clear A380
                by_cases c39 : (t636.length : Int) = t640
                · rw [if_pos c39] at H
                  have c39b0 : ((t636.length : Int) == t640) = true := beq_iff_eq.mpr c39
                  have c39b1 : ((t636.length : Int) != t640) = false := bne_eq_false_iff_eq.mpr c39
                  clear c39
                  replace H := Option.bind_eq_some_iff.mp H
                  obtain ⟨t641, A400, H⟩ := H
                  replace H : (some (t641 == (t636.length : Int))) = some r := H
                  have A40 := Aside0.mk A400
                  clear A400
                  obtain rfl := Option.some.inj H
                  have hcz41_0 : wr.cell? ⟨gb632, 0, none⟩ = some (.int .i64 a0_0) := (blk_cell BK632.out 0).trans rfl
                  have hcz41_1 : wr.cell? ⟨gb632, 1, none⟩ = some (.string a0_1) := (blk_cell BK632.out 1).trans rfl
                  have hcz41_2 : wr.cell? ⟨gb632, 2, none⟩ = some (.int .i64 a0_2) := (blk_cell BK632.out 2).trans rfl
                  have hcz41_3 : wr.cell? ⟨gb632, 3, none⟩ = some (.slice A0_3 l0_3.length c0_3) := (blk_cell BK632.out 3).trans rfl
                  have hfz41_0 := blk_frozen BK632.out 0
                  have hfz41_1 := blk_frozen BK632.out 1
                  have hfz41_2 := blk_frozen BK632.out 2
                  have hfz41_3 := blk_frozen BK632.out 3
                  go_wp2_with (first | ((with_reducible refine gate_callee (f := 44) rfl ?_); refine goesL_ (some 57) rfl rfl Tryd.func44 (by kernel_rfl) rfl #[.agg #[.int .i64 a0_0, .string a0_1, .int .i64 a0_2, .slice A0_3 l0_3.length c0_3]] rfl (by (try simp only [List.map_toArray, List.map_cons, List.map_nil]); first | done | rfl | (simp only [List.length_drop, List.length_take]; rfl)) ?_; (with_reducible refine (vinculumlaw10_rows.calls k2 a0_0 a0_1 a0_2 _ _ l0_3 t640 _ ?side1 ?side2 A38.out).mono ?_); (case side1 => repeat (first | exact (Kd.C_below HR0_3.out HB.out) | (with_reducible refine Kd.C_alloc ?_ _) | (with_reducible refine Kd.C_drewN ?_ _) | (with_reducible refine Kd.C_drew ?_))); (case side2 => exact HC0_3.out); rintro e w42 ⟨rfl, hb⟩; refine ⟨_, rfl, ?_⟩; have n0_ := Aside0.mk (Kd.N_below (by (with_reducible repeat (first | apply Kd.N_alloc | apply Kd.N_drewN | apply Kd.N_drew)); exact HO_3.out) hb); have n1_ := Aside0.mk (blk_below (g := gb632) (o := .cells #[.int .i64 a0_0, .string a0_1, .int .i64 a0_2, .slice A0_3 l0_3.length c0_3] 36 (0, 0)) (by (with_reducible repeat (first | refine blk_drewN ?_ _ | refine blk_drew ?_ | refine blk_alloc ?_ _)); exact BK632.out) hb); have n2_ := Aside0.mk (below_step (by repeat (first | (with_reducible first | exact HB.out | apply below_alloc | apply pw_below_drewN | apply below_drew1 | refine below_set ?_ GE632.out) | exact HB.out)) hb); clear HO_3; clear BK632; clear HB; have HO_3 := n0_; have BK632 := n1_; have HB := n2_; clear n0_ n1_ n2_; (try clear hb); (try clear hb2); (try clear hk); (try clear hi); have hcz43_0 : w42.cell? ⟨gb632, 0, none⟩ = some (.int .i64 a0_0) := (blk_cell BK632.out 0).trans rfl; have hcz43_1 : w42.cell? ⟨gb632, 1, none⟩ = some (.string a0_1) := (blk_cell BK632.out 1).trans rfl; have hcz43_2 : w42.cell? ⟨gb632, 2, none⟩ = some (.int .i64 a0_2) := (blk_cell BK632.out 2).trans rfl; have hcz43_3 : w42.cell? ⟨gb632, 3, none⟩ = some (.slice A0_3 l0_3.length c0_3) := (blk_cell BK632.out 3).trans rfl; have hfz43_0 := blk_frozen BK632.out 0; have hfz43_1 := blk_frozen BK632.out 1; have hfz43_2 := blk_frozen BK632.out 2; have hfz43_3 := blk_frozen BK632.out 3) | (go_at_call 43; (with_reducible refine (position_Count.calls k2 a0_0 a0_1 a0_2 _ _ l0_3 t641 _ ?side1 ?side2 A40.out).mono ?_); (case side1 => repeat (first | exact (Kd.C_below HR0_3.out HB.out) | (with_reducible refine Kd.C_alloc ?_ _) | (with_reducible refine Kd.C_drewN ?_ _) | (with_reducible refine Kd.C_drew ?_))); (case side2 => exact HC0_3.out); rintro e w44 ⟨rfl, hb⟩; have n0_ := Aside0.mk (Kd.N_below (by (with_reducible repeat (first | apply Kd.N_alloc | apply Kd.N_drewN | apply Kd.N_drew)); exact HO_3.out) hb); have n1_ := Aside0.mk (blk_below (g := gb632) (o := .cells #[.int .i64 a0_0, .string a0_1, .int .i64 a0_2, .slice A0_3 l0_3.length c0_3] 36 (0, 0)) (by (with_reducible repeat (first | refine blk_drewN ?_ _ | refine blk_drew ?_ | refine blk_alloc ?_ _)); exact BK632.out) hb); have n2_ := Aside0.mk (below_step (by repeat (first | (with_reducible first | exact HB.out | apply below_alloc | apply pw_below_drewN | apply below_drew1 | refine below_set ?_ GE632.out) | exact HB.out)) hb); clear HO_3; clear BK632; clear HB; have HO_3 := n0_; have BK632 := n1_; have HB := n2_; clear n0_ n1_ n2_; (try clear hb); (try clear hb2); (try clear hk); (try clear hi)))
                  go_ret
                  exact ⟨by first | rfl | (simp [errW_none, errW_some] <;> rfl) | (simp [*, errW_none, errW_some] <;> rfl), by repeat (first | (with_reducible first | exact HB.out | apply below_alloc | apply pw_below_drewN | apply below_drew1 | refine below_set ?_ GE632.out) | exact HB.out)⟩
                · rw [if_neg c39] at H
                  have c39b0 : ((t636.length : Int) == t640) = false := beq_eq_false_iff_ne.mpr c39
                  have c39b1 : ((t636.length : Int) != t640) = true := bne_iff_ne.mpr c39
                  obtain rfl := Option.some.inj H
                  have hcz45_0 : wr.cell? ⟨gb632, 0, none⟩ = some (.int .i64 a0_0) := (blk_cell BK632.out 0).trans rfl
                  have hcz45_1 : wr.cell? ⟨gb632, 1, none⟩ = some (.string a0_1) := (blk_cell BK632.out 1).trans rfl
                  have hcz45_2 : wr.cell? ⟨gb632, 2, none⟩ = some (.int .i64 a0_2) := (blk_cell BK632.out 2).trans rfl
                  have hcz45_3 : wr.cell? ⟨gb632, 3, none⟩ = some (.slice A0_3 l0_3.length c0_3) := (blk_cell BK632.out 3).trans rfl
                  have hfz45_0 := blk_frozen BK632.out 0
                  have hfz45_1 := blk_frozen BK632.out 1
                  have hfz45_2 := blk_frozen BK632.out 2
                  have hfz45_3 := blk_frozen BK632.out 3
                  go_wp2_with (first | ((with_reducible refine gate_callee (f := 44) rfl ?_); refine goesL_ (some 57) rfl rfl Tryd.func44 (by kernel_rfl) rfl #[.agg #[.int .i64 a0_0, .string a0_1, .int .i64 a0_2, .slice A0_3 l0_3.length c0_3]] rfl (by (try simp only [List.map_toArray, List.map_cons, List.map_nil]); first | done | rfl | (simp only [List.length_drop, List.length_take]; rfl)) ?_; (with_reducible refine (vinculumlaw10_rows.calls k2 a0_0 a0_1 a0_2 _ _ l0_3 t640 _ ?side1 ?side2 A38.out).mono ?_); (case side1 => repeat (first | exact (Kd.C_below HR0_3.out HB.out) | (with_reducible refine Kd.C_alloc ?_ _) | (with_reducible refine Kd.C_drewN ?_ _) | (with_reducible refine Kd.C_drew ?_))); (case side2 => exact HC0_3.out); rintro e w46 ⟨rfl, hb⟩; refine ⟨_, rfl, ?_⟩; have n0_ := Aside0.mk (Kd.N_below (by (with_reducible repeat (first | apply Kd.N_alloc | apply Kd.N_drewN | apply Kd.N_drew)); exact HO_3.out) hb); have n1_ := Aside0.mk (blk_below (g := gb632) (o := .cells #[.int .i64 a0_0, .string a0_1, .int .i64 a0_2, .slice A0_3 l0_3.length c0_3] 36 (0, 0)) (by (with_reducible repeat (first | refine blk_drewN ?_ _ | refine blk_drew ?_ | refine blk_alloc ?_ _)); exact BK632.out) hb); have n2_ := Aside0.mk (below_step (by repeat (first | (with_reducible first | exact HB.out | apply below_alloc | apply pw_below_drewN | apply below_drew1 | refine below_set ?_ GE632.out) | exact HB.out)) hb); clear HO_3; clear BK632; clear HB; have HO_3 := n0_; have BK632 := n1_; have HB := n2_; clear n0_ n1_ n2_; (try clear hb); (try clear hb2); (try clear hk); (try clear hi)))
                  go_ret
                  exact ⟨by first | rfl | (simp [errW_none, errW_some] <;> rfl) | (simp [*, errW_none, errW_some] <;> rfl), by repeat (first | (with_reducible first | exact HB.out | apply below_alloc | apply pw_below_drewN | apply below_drew1 | refine below_set ?_ GE632.out) | exact HB.out)⟩
        · rw [if_neg c15] at H
          have c15b0 : (t639 == 0) = false := beq_eq_false_iff_ne.mpr c15
          have c15b1 : (t639 != 0) = true := bne_iff_ne.mpr c15
          obtain rfl := Option.some.inj H
          have hcz47_0 : wc.cell? ⟨gb632, 0, none⟩ = some (.int .i64 a0_0) := (blk_cell BK632.out 0).trans rfl
          have hcz47_1 : wc.cell? ⟨gb632, 1, none⟩ = some (.string a0_1) := (blk_cell BK632.out 1).trans rfl
          have hcz47_2 : wc.cell? ⟨gb632, 2, none⟩ = some (.int .i64 a0_2) := (blk_cell BK632.out 2).trans rfl
          have hcz47_3 : wc.cell? ⟨gb632, 3, none⟩ = some (.slice A0_3 l0_3.length c0_3) := (blk_cell BK632.out 3).trans rfl
          have hfz47_0 := blk_frozen BK632.out 0
          have hfz47_1 := blk_frozen BK632.out 1
          have hfz47_2 := blk_frozen BK632.out 2
          have hfz47_3 := blk_frozen BK632.out 3
          go_wp2_with (first | ((with_reducible refine gate_callee (f := 37) rfl ?_); refine goesL_ (some 16) rfl rfl Tryd.func37 (by kernel_rfl) rfl #[.agg #[.int .i64 a0_0, .string a0_1, .int .i64 a0_2, .slice A0_3 l0_3.length c0_3]] rfl (by (try simp only [List.map_toArray, List.map_cons, List.map_nil]); first | done | rfl | (simp only [List.length_drop, List.length_take]; rfl)) ?_; (with_reducible refine (position_All.calls kj1 a0_0 a0_1 a0_2 _ _ l0_3 t636 t639 _ ?side1 ?side2 A14.out).mono ?_); (case side1 => repeat (first | exact (Kd.C_below HR0_3.out HB.out) | (with_reducible refine Kd.C_alloc ?_ _) | (with_reducible refine Kd.C_drewN ?_ _) | (with_reducible refine Kd.C_drew ?_))); (case side2 => exact HC0_3.out); rintro e w48 ⟨v637, rfl, ho0, hb⟩; refine ⟨_, rfl, ?_⟩; have n0_ := Aside0.mk (Kd.N_lower (Kd.N_mono (ok' := fun k_ => k_ ≠ gb632) ho0 (fun k_ hk_ => (Kd.freshB (g := gb632) (o := .cells #[.int .i64 a0_0, .string a0_1, .int .i64 a0_2, .slice A0_3 l0_3.length c0_3] 36 (0, 0)) (by (with_reducible repeat (first | refine blk_drewN ?_ _ | refine blk_drew ?_ | refine blk_alloc ?_ _)); exact BK632.out) k_ hk_))) (below_size (by repeat (first | (with_reducible first | exact HB.out | apply below_alloc | apply pw_below_drewN | apply below_drew1 | refine below_set ?_ GE632.out) | exact HB.out)))); have n1_ := Aside0.mk (blk_below (g := gb632) (o := .cells #[.int .i64 a0_0, .string a0_1, .int .i64 a0_2, .slice A0_3 l0_3.length c0_3] 36 (0, 0)) (by (with_reducible repeat (first | refine blk_drewN ?_ _ | refine blk_drew ?_ | refine blk_alloc ?_ _)); exact BK632.out) hb); have n2_ := Aside0.mk (below_step (by repeat (first | (with_reducible first | exact HB.out | apply below_alloc | apply pw_below_drewN | apply below_drew1 | refine below_set ?_ GE632.out) | exact HB.out)) hb); clear BK632; clear HB; have HO638 := n0_; have BK632 := n1_; have HB := n2_; clear n0_ n1_ n2_; (try clear hb); (try clear hb2); (try clear hk); (try clear hi); (try clear ho0); obtain ⟨Ao49, co49, eo49⟩ := Kd.N_slice HO638.out; subst eo49))
          go_ret
          exact ⟨by first | rfl | (simp [errW_none, errW_some] <;> rfl) | (simp [*, errW_none, errW_some] <;> rfl), by repeat (first | (with_reducible first | exact HB.out | apply below_alloc | apply pw_below_drewN | apply below_drew1 | refine below_set ?_ GE632.out) | exact HB.out)⟩
end Go.Proofs.YtagkhoeidjlahaaDoor.G
namespace Go.Proofs.YtagkhoeidjlahaaDoor.G.Pure
open Go.Proofs.YtagkhoeidjlahaaDoorW.PrintWords Go.RowKit
set_option linter.unusedVariables false
set_option linter.unusedSimpArgs false
mutual
def rws : S36 → Nat
  | ⟨k, _, _, l⟩ => (if k = 1 then l.length + 1 else 0) + rwsL l
def rwsL : List S36 → Nat
  | [] => 0
  | y :: l => rws y + rwsL l
end
theorem rws_eq (x : S36) : rws x = (if x.f0 = 1 then x.f3.length + 1 else 0) + rwsL x.f3 := by cases x; simp [rws]
theorem len_cntL : ∀ l : List S36, l.length ≤ cntL l
  | [] => by simp
  | y :: l => by rw [cntL]; have := len_cntL l; have := cnt_pos y; simp; omega
theorem rws_le : ∀ (n : Nat) (x : S36), cnt x ≤ n → rws x + 1 ≤ 2 * cnt x := by
  intro n
  induction n with
  | zero => intro x h; have := cnt_pos x; omega
  | succ n ih =>
    intro x hn
    rw [cnt_eq] at hn
    have loop : ∀ l : List S36, cntL l ≤ n → rwsL l + l.length ≤ 2 * cntL l := by
      intro l
      induction l with
      | nil => intro _; simp [rwsL]
      | cons y l ihl =>
        intro h
        rw [cntL] at h ⊢
        rw [rwsL]
        have := ih y (by omega)
        have := ihl (by omega)
        simp; omega
    have := loop x.f3 (by omega)
    rw [rws_eq, cnt_eq]
    split <;> omega
theorem rows_ev : ∀ (n : Nat) (x : S36), cnt x ≤ n → n ≤ 100000 → OkNode x → Ev (fun k => vinculumlaw10_rows.f k x.f0 x.f1 x.f2 x.f3) (rws x : Int) := by
  intro n
  induction n with
  | zero => intro x h; have := cnt_pos x; omega
  | succ n ih =>
    intro x hn hM hx
    obtain ⟨h1, h2, h3⟩ := ok_open hx
    unfold M at h2
    have hrl := rws_le (cnt x) x (Nat.le_refl _)
    have hlc := len_cntL x.f3
    rw [cnt_eq] at hn
    have loop : ∀ (m i a : Nat), x.f3.length - i = m → cntL (x.f3.drop i) ≤ n → a + rwsL (x.f3.drop i) ≤ 1000000 → Ev (fun k => vinculumlaw10_rows.l0 k a x.f3 x.f3.length i) ((a + rwsL (x.f3.drop i) : Nat) : Int) := by
      intro m
      induction m with
      | zero =>
        intro i a hi _ _
        refine Ev.step (fun k => by rw [vinculumlaw10_rows.l0]) ?_
        refine ev_if (fun h => by omega) fun _ => ev_now ?_
        rw [List.drop_eq_nil_of_le (by omega), rwsL]; rfl
      | succ m ihm =>
        intro i a hi hc ha
        have hil : i < x.f3.length := by omega
        have hd := List.drop_eq_getElem_cons hil
        rw [cntL_drop hil] at hc
        rw [hd, rwsL] at ha ⊢
        refine Ev.step (fun k => by rw [vinculumlaw10_rows.l0]) ?_
        refine ev_if (fun _ => ?_) fun h => by omega
        refine ev_if (fun _ => ?_) fun h => by omega
        refine ev_if (fun _ => ?_) fun h => by omega
        rw [rdT_at _ _ hil]
        refine ev_bind (ih x.f3[i] (by omega) (by omega) (h3 _ (List.getElem_mem hil))) ?_
        rw [wr (n := (i : Int) + 1) (by omega), wr (n := (a : Int) + (rws x.f3[i] : Int)) (by omega)]
        have := ihm (i + 1) (a + rws x.f3[i]) (by omega) (by omega) (by omega)
        rw [← Nat.add_assoc]
        exact_mod_cast this
    have hre := rws_eq x
    refine Ev.step (fun k => by rw [vinculumlaw10_rows.f]) ?_
    refine ev_if (fun h => ?_) fun h => ?_
    · rw [if_pos h] at hre
      refine Ev.step (fun k => by rw [vinculumlaw10_rows.j0]) ?_
      have := loop x.f3.length 0 (x.f3.length + 1) rfl (by simp; omega) (by simp; rw [cnt_eq] at hrl; omega)
      rw [wr (n := (x.f3.length : Int) + 1) (by omega), hre]
      simpa using this
    · rw [if_neg h] at hre
      refine Ev.step (fun k => by rw [vinculumlaw10_rows.j0]) ?_
      have := loop x.f3.length 0 0 rfl (by simp; omega) (by simp; rw [cnt_eq] at hrl; omega)
      rw [hre]
      simpa using this
mutual
theorem kids_count : ∀ (p : List Int) (i : Int) (l : List S36), formL true l = true → (posKids p i l).length = l.length + 1 + rwsL l
  | p, i, [], _ => by simp [posKids, rwsL]
  | p, i, x :: l, h => by
    simp only [formL, Bool.and_eq_true] at h
    have h1 := item_count p i x (by intro e; have := h.1.1; rw [e] at this; simp at this) h.1.2
    have h2 := kids_count p (i + 1) l h.2
    rw [posKids, rwsL]
    simp only [List.length_cons, List.length_append]
    omega
theorem item_count : ∀ (p : List Int) (i : Int) (x : S36), x.f0 ≠ 1 → formB x = true → (posItem p i x).length = rws x
  | p, i, ⟨k, s, c, l⟩, hk, h => by
    have hk' : k ≠ 1 := hk
    simp only [formB, Bool.and_eq_true] at h
    have hf : formL false l = true := by have := h.2; rwa [beq_eq_false_iff_ne.2 hk'] at this
    have h1 := slots_count p i 0 l hf
    rw [posItem, rws, if_neg hk']
    omega
theorem slots_count : ∀ (p : List Int) (i s : Int) (l : List S36), formL false l = true → (posSlots p i s l).length = rwsL l
  | p, i, s, [], _ => by simp [posSlots, rwsL]
  | p, i, s, y :: l, h => by
    simp only [formL, Bool.and_eq_true] at h
    have hy : y.f0 = 1 := by have := h.1.1; simpa using this
    have h1 := slot_count (p ++ [i, s]) y hy h.1.2
    have h2 := slots_count p i (s + 1) l h.2
    rw [posSlots, rwsL]
    simp only [List.length_append]
    omega
theorem slot_count : ∀ (p : List Int) (y : S36), y.f0 = 1 → formB y = true → (posSlot p y).length = rws y
  | p, ⟨k, s, c, l⟩, hk, h => by
    have hk' : k = 1 := hk
    subst hk'
    simp only [formB, Bool.and_eq_true] at h
    have h1 := kids_count p 0 l (by simpa using h.2)
    rw [posSlot, rws, if_pos rfl]
    omega
end
theorem idxF_of2 {xs : List (List Int)} (hs : Srt xs) {r : Nat} (h : r < xs.length) : idxF xs[r] xs 0 = ((r : Int), 0) := by
  rw [idxF_at xs[r] xs 0 r h (fun t ht => by have := srt_lt hs ht h; omega) (cmpL_self _)]
  simp
theorem PositionComplete (x : S36) (hx : OkNode x) : ∃ k, vinculumlaw10_PositionComplete.f k x.f0 x.f1 x.f2 x.f3 = some true := by
  apply Ev.rounds
  unfold vinculumlaw10_PositionComplete.f
  refine guard10 (α := Unit) x hx [] (g := fun k b => vinculumlaw10_PositionComplete.j0 k b x.f0 x.f1 x.f2 x.f3) ?_ ?_
  · refine Ev.step (fun k => by rw [vinculumlaw10_PositionComplete.j0]) ?_
    exact ev_if (fun _ => aw (α := Unit)) fun h => absurd rfl h
  · intro h1 h2
    have hc : cnt x ≤ 100000 := by omega
    have hle := xs_le x
    have hsr : Srt (xsOf x) := kids_srt _ _ _
    have hsh := xs_short x hc
    refine Ev.step (fun k => by rw [vinculumlaw10_PositionComplete.j0]) ?_
    refine ev_if (fun h => by cases h) fun _ => ?_
    refine ev_bind (pAll_ev x hx) ?_
    cases hv : validB x with
    | false =>
      have e : allB x = ([], 1) := by unfold allB; rw [if_neg (by simp [hv])]
      rw [e]
      exact ev_if (fun h => by simp at h) fun _ => Ev.now _
    | true =>
      have e : allB x = (xsOf x, 0) := by unfold allB; rw [if_pos hv]
      rw [e]
      refine ev_if (fun _ => ?_) fun h => absurd rfl h
      have hcount : (xsOf x).length = rws x := by
        have hv2 := hv
        unfold validB at hv2
        simp only [Bool.and_eq_true, beq_iff_eq] at hv2
        have hk := hv2.1.1.1
        have := slot_count [] x hk hv2.1.1.2
        rw [posSlot_eq] at this
        exact this
      have loop : ∀ (m i : Nat), (xsOf x).length - i = m → Ev (fun k => vinculumlaw10_PositionComplete.l0 k (xsOf x) (xsOf x).length i x.f0 x.f1 x.f2 x.f3) true := by
        intro m
        induction m with
        | zero =>
          intro i hi
          refine Ev.step (fun k => by rw [vinculumlaw10_PositionComplete.l0]) ?_
          refine ev_if (fun h => by omega) fun _ => ?_
          refine ev_bind (rows_ev (cnt x) x (Nat.le_refl _) hc hx) ?_
          refine ev_if (fun _ => ?_) fun h => absurd (by rw [hcount]) h
          refine ev_bind (pCount_ev x hx) (ev_now ?_)
          rw [e]; simp
        | succ m ih =>
          intro i hi
          have hil : i < (xsOf x).length := by omega
          refine Ev.step (fun k => by rw [vinculumlaw10_PositionComplete.l0]) ?_
          refine ev_if (fun _ => ?_) fun h => by omega
          refine ev_if (fun _ => ?_) fun h => by omega
          refine ev_if (fun _ => ?_) fun h => by omega
          have next : Ev (fun k => vinculumlaw10_PositionComplete.l0 k (xsOf x) (xsOf x).length (wrap64 ((i : Int) + 1)) x.f0 x.f1 x.f2 x.f3) true := by
            rw [wr (n := (i : Int) + 1) (by omega)]
            have := ih (i + 1) (by omega)
            exact_mod_cast this
          rw [rdL_at _ _ hil]
          have hvi : (idxB x (xsOf x)[i]).2 = 0 := by unfold idxB; rw [if_pos hv, idxF_of2 hsr hil]
          refine ev_bind (pValid_ev x hx hc _) ?_
          rw [hvi]
          refine ev_if (fun _ => ?_) fun h => absurd rfl h
          refine ev_if (fun hp => ?_) fun _ => next
          rw [wr (n := (i : Int) - 1) (by omega)]
          refine ev_if (fun _ => ?_) fun h => by omega
          refine ev_if (fun _ => ?_) fun h => by omega
          rw [show (i : Int) - 1 = ((i - 1 : Nat) : Int) by omega, rdL_at _ _ (show i - 1 < (xsOf x).length by omega)]
          refine ev_bind (pCmp_ev _ _ (hsh _ (List.getElem_mem _))) ?_
          have hlt := srt_lt hsr (show i - 1 < i by omega) hil
          exact ev_if (fun h => by omega) fun _ => next
      exact loop _ 0 rfl
end Go.Proofs.YtagkhoeidjlahaaDoor.G.Pure
namespace Go.Proofs.YtagkhoeidjlahaaDoor.positionComplete
open Go.ChangeShapes Go.WideShapes Go.ChangeAt Go.RowKit G
set_option linter.unusedVariables false
theorem own : ownKnob Tryd.prog.godebug = none := by kernel_rfl
theorem laidOut : laidOutB Tryd.prog = true := by kernel_rfl
set_option maxRecDepth 100000 in
theorem lifted (os : Os) (started : os.Started) (H : Type) (enc : TypeId × Value → H) :
    ReturnsInHanded {} Tryd.checked os 12 .any (fun w args => (Rows.positionCompleteSpec.pre enc Tryd.prog Tryd.f12 Rows.positionCompleteRow.domain false w args ∧ laidMetH Tryd.prog Rows.positionCompleteRow.laid w) ∧ sizedMet enc Tryd.prog Tryd.f12 (OpenSpec.ofChange Rows.positionCompleteSpec) false w args)
      (Rows.positionCompleteSpec.post enc Tryd.prog Tryd.f12 false true false false) := by
  refine returnsInHanded_of_change_and (C := Tryd.checked) (X := fun w _ => laidMetH Tryd.prog Rows.positionCompleteRow.laid w) (fun _ _ _ hh h => h.of_heap hh) own started (by kernel_rfl) Tryd.func12
    (ChangeSpec.witness_shaped (enc := enc) (C := Tryd.checked) (os := os) (X := fun w _ => laidMetH Tryd.prog Rows.positionCompleteRow.laid w) false (World.laidAll Tryd.prog os Rows.positionCompleteRow.laid) #[.agg #[.int .i64 0, .string ⟨#[]⟩, .int .i64 0, .slice none 0 0]] 8 (World.laidAll_os _ _ _)
      (World.shaped_of_ZipB (by kernel_rfl) (by kernel_rfl)) (by kernel_rfl) (by kernel_rfl) (by kernel_rfl)
      (by rw [MakeChecks.laidMetH_plain _ _ _ (by kernel_rfl)]; exact laidMet_laidAll _ (by kernel_rfl) (by kernel_rfl))) ?_
  intro W base args ds gs before hval0 hW hc _ hL _
  have hval : ∀ (j : Nat) t v, Tryd.f12.params[j]? = some t → args[j]? = some v → Value.okWide Tryd.prog W .any base t v := hval0
  have hW' := hW
  obtain ⟨p, q, hA0, hV, rfl, _, _⟩ := hW
  have hA : DataW.TrodAll enc Tryd.prog W 0 (fun _ => true) true Tryd.f12.params.toList args.toList ds p := hA0
  rw [Tryd.params12] at hA hval
  obtain ⟨v0, vs0, d0, ds0, p0, q0, hargs, rfl, rfl, h0, r0⟩ := trodAll_cons hA
  obtain ⟨rfl, rfl, rfl⟩ := trodAll_nil r0
  obtain rfl : args = #[v0] := by cases args; simp_all
  obtain ⟨rfl, rfl⟩ := trodVars_none hV
  have k0 := h0
  have lt0 : ∀ x ∈ p0, x.block < W.heap.size := by obtain ⟨m, hm⟩ := k0; exact DataW.trod_lt m _ _ _ hm
  obtain ⟨x0, A0, c0, rfl, le0, C0, o0⟩ := node_arg (hval 0 36 v0 rfl rfl) h0
  clear hA0 hval0
  obtain ⟨k, hk⟩ := G.Pure.PositionComplete x0 o0
  refine (vinculumlaw10_PositionComplete.calls k x0.f0 x0.f1 x0.f2 A0 c0 x0.f3 true W C0 le0 hk).mono fun e W' ⟨he, bel⟩ => ?_
  subst he
  exact ⟨_, rfl, _, _, _, [], _, [], hW', trodAll_mk1 (shut_bool Tryd.underlying4 _), (trodAll_cons_mk (Below.trod laidOut (by kernel_rfl) (of_decide_eq_true (by kernel_rfl)) k0 bel lt0) trodAll_mk0), rfl, bel.frame _, fun h => by cases h⟩
theorem holds : Rows.PositionCompleteSaid :=
  OpenClaim.holds_of_wide 12 Tryd.f12 rfl rfl rfl rfl rfl rfl rfl ⟨rfl, rfl, rfl, rfl, rfl⟩ rfl rfl rfl rfl rfl (by kernel_rfl) Tryd.func12 (by kernel_rfl)
    (of_decide_eq_true (by kernel_rfl)) (by unfold Func.isWrapper; first | (rw [if_pos (by decide +kernel)]; kernel_rfl) | (rw [if_neg (by decide +kernel)]; exact ⟨rfl, rfl⟩))
    (fun os started H enc _ => lifted os started H enc)
theorem card : Rows.PositionCompleteCardSaid :=
  Claim7.holds_tied_plain_at .later [] [.data, .pinned] true (true, "c39d0df16196e9f8f3819fe85171d6b94f20910c6b42b30e9fe380aa6e06d008") false holds (fun _ h => by cases h) (by kernel_rfl) (fun _ h => by cases h) positionComplete_row_tie rfl ⟨rfl, rfl⟩ (by kernel_rfl) rfl
    (fun f fn hf hfn => by
      obtain rfl : f = 12 := Option.some.inj ((show Tryd.prog.funcNamed "vinculum/vinculumlaw10.PositionComplete" = some 12 by kernel_rfl).symm.trans hf) |>.symm
      obtain rfl : fn = Tryd.f12 := (Option.some.inj (Tryd.func12.symm.trans hfn)).symm
      exact ⟨by kernel_rfl, fun j t ht => by
        rw [Tryd.params12] at ht
        have hm : t ∈ [36] := by simpa using Array.mem_of_getElem? ht
        have hall : ([36].all fun u => !Tryd.prog.wantsStandIn u) = true := by kernel_rfl
        exact (show Tryd.prog.wantsStandIn t = false by simpa using List.all_eq_true.1 hall t hm)⟩)
    (by kernel_rfl)
end Go.Proofs.YtagkhoeidjlahaaDoor.positionComplete
namespace Go.Proofs.YtagkhoeidjlahaaDoor
theorem positionComplete_card : Rows.PositionCompleteCardSaid := positionComplete.card
#print axioms positionComplete_card
end Go.Proofs.YtagkhoeidjlahaaDoor
