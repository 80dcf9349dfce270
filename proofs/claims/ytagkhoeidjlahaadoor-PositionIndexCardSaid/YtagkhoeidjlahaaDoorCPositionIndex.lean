-- Written by pack.py, a program of this session: this session's texts and those that the kit's printer wrote for this claim, pruned to what the claim uses.
import Derived.Test.YtagkhoeidjlahaaDoorCPositionIndex6
import Derived.Test.YtagkhoeidjlahaaDoorRows
import Derived.Test.YtagkhoeidjlahaaDoorTie
import Derived.Test.YtagkhoeidjlahaaDoorCards
import Derived.WalkKit
import Derived.ProofKit
import Derived.OpenShut
import Derived.ShutString
import Derived.ChangeOld
import Derived.Below
import Derived.SizedLaws
import Derived.LaidMore
import Derived.Lay
import Derived.SevenTiedAt
import Derived.Stop.Joined
namespace Go.Proofs.YtagkhoeidjlahaaDoor.G
open Go.RowKit Go.Proofs.YtagkhoeidjlahaaDoorW.PrintWords Go.Proofs.YtagkhoeidjlahaaDoorW.PrintLast Go.Proofs.YtagkhoeidjlahaaDoorW.PrintMore
attribute [local go_sem] max2_int min2_int max_two min_two max_three min_three max_four min_four
set_option linter.unusedVariables false
set_option linter.unusedSimpArgs false
def vinculumlaw10_PositionIndex.j0 : Nat → List Int → Int → Bool → Int → ByteArray → Int → List (S36) → Option (Bool)
  | 0, _, _, _, _, _, _, _ => none
  | k + 1, x1, x2, x22, x487000, x487001, x487002, x487003 => if x22 = true then ((vinculumlaw10_awake.f k).bind fun t489 => (some t489)) else ((position_Index.f k x487000 x487001 x487002 x487003 x1).bind fun bt490 => ((vinculumref10_Index.f k x487000 x487001 x487002 x487003 x1).bind fun bt492 => ((position_At.f k x487000 x487001 x487002 x487003 x2).bind fun bt494 => ((vinculumref10_At.f k x487000 x487001 x487002 x487003 x2).bind fun bt498 => (if bt490.2 = bt492.2 then (if bt490.1 = bt492.1 then (if bt494.2 = bt498.2 then ((vinculumref10_Same.f k bt494.1 bt498.1).bind fun t502 => (some t502)) else (some false)) else (some false)) else (some false))))))
def vinculumlaw10_PositionIndex.f (k : Nat) (a0_0 : Int) (a0_1 : ByteArray) (a0_2 : Int) (l0_3 : List (S36)) (l1 : List Int) (a2 : Int) : Option (Bool) := (vinculumlaw10_awake.f k).bind fun t487 => (if t487 = true then ((vinculumlaw10_few.f k a0_0 a0_1 a0_2 l0_3 l1).bind fun t488 => (vinculumlaw10_PositionIndex.j0 k l1 a2 (!t488) a0_0 a0_1 a0_2 l0_3)) else (vinculumlaw10_PositionIndex.j0 k l1 a2 true a0_0 a0_1 a0_2 l0_3))
theorem vinculumlaw10_PositionIndex.mono_l : ∀ k, (∀ y0 y1 y2 y3 y4 y5 y6, LeO (vinculumlaw10_PositionIndex.j0 k y0 y1 y2 y3 y4 y5 y6) (vinculumlaw10_PositionIndex.j0 (k + 1) y0 y1 y2 y3 y4 y5 y6))
  | 0 => fun _ _ _ _ _ _ _ r h => by simp [vinculumlaw10_PositionIndex.j0] at h
  | k + 1 => by
    have ih0 := vinculumlaw10_PositionIndex.mono_l k
    · intro y0 y1 y2 y3 y4 y5 y6
      unfold vinculumlaw10_PositionIndex.j0
      repeat' first
      | (with_reducible exact ih0 _ _ _ _ _ _ _)
      | (with_reducible exact position_At.mono _ _ _ _ _ _)
      | (with_reducible exact position_Index.mono _ _ _ _ _ _)
      | (with_reducible exact vinculumlaw10_awake.mono _)
      | (with_reducible exact vinculumlaw10_few.mono _ _ _ _ _ _)
      | (with_reducible exact vinculumref10_At.mono _ _ _ _ _ _)
      | (with_reducible exact vinculumref10_Index.mono _ _ _ _ _ _)
      | (with_reducible exact vinculumref10_Same.mono _ _ _)
      | (with_reducible exact LeO.refl _)
      | (with_reducible exact LeO.none _)
      | (with_reducible refine LeO.ite ?_ ?_)
      | (with_reducible refine LeO.bind ?_ (fun _ => ?_))
      | exact ih0 _ _ _ _ _ _ _
      | exact position_At.mono _ _ _ _ _ _
      | exact position_Index.mono _ _ _ _ _ _
      | exact vinculumlaw10_awake.mono _
      | exact vinculumlaw10_few.mono _ _ _ _ _ _
      | exact vinculumref10_At.mono _ _ _ _ _ _
      | exact vinculumref10_Index.mono _ _ _ _ _ _
      | exact vinculumref10_Same.mono _ _ _
      | exact LeO.none _
      | refine LeO.ite ?_ ?_
      | refine LeO.bind ?_ (fun _ => ?_)
theorem vinculumlaw10_PositionIndex.mono : ∀ a0 a1 a2 a3 a4 a5 k, LeO (vinculumlaw10_PositionIndex.f k a0 a1 a2 a3 a4 a5) (vinculumlaw10_PositionIndex.f (k + 1) a0 a1 a2 a3 a4 a5) := by
  intro a0 a1 a2 a3 a4 a5 k
  have ih0 := vinculumlaw10_PositionIndex.mono_l k
  unfold vinculumlaw10_PositionIndex.f
  repeat' first
      | (with_reducible exact ih0 _ _ _ _ _ _ _)
      | (with_reducible exact position_At.mono _ _ _ _ _ _)
      | (with_reducible exact position_Index.mono _ _ _ _ _ _)
      | (with_reducible exact vinculumlaw10_awake.mono _)
      | (with_reducible exact vinculumlaw10_few.mono _ _ _ _ _ _)
      | (with_reducible exact vinculumref10_At.mono _ _ _ _ _ _)
      | (with_reducible exact vinculumref10_Index.mono _ _ _ _ _ _)
      | (with_reducible exact vinculumref10_Same.mono _ _ _)
      | (with_reducible exact LeO.refl _)
      | (with_reducible exact LeO.none _)
      | (with_reducible refine LeO.ite ?_ ?_)
      | (with_reducible refine LeO.bind ?_ (fun _ => ?_))
      | exact ih0 _ _ _ _ _ _ _
      | exact position_At.mono _ _ _ _ _ _
      | exact position_Index.mono _ _ _ _ _ _
      | exact vinculumlaw10_awake.mono _
      | exact vinculumlaw10_few.mono _ _ _ _ _ _
      | exact vinculumref10_At.mono _ _ _ _ _ _
      | exact vinculumref10_Index.mono _ _ _ _ _ _
      | exact vinculumref10_Same.mono _ _ _
      | exact LeO.none _
      | refine LeO.ite ?_ ?_
      | refine LeO.bind ?_ (fun _ => ?_)
set_option maxHeartbeats 8000000 in
set_option maxRecDepth 100000 in
theorem vinculumlaw10_PositionIndex.calls (k : Nat) (a0_0 : Int) (a0_1 : ByteArray) (a0_2 : Int) (A0_3 : Option Addr) (c0_3 : Nat) (l0_3 : List (S36)) (A1 : Option Addr) (c1 : Nat) (l1 : List Int) (a2 : Int) (r : Bool) (w : World) (hr0_3 : Kd.C k36 w A0_3 l0_3.length l0_3) (hc0_3 : l0_3.length ≤ c0_3) (hr1 : Kd.C (Kd.int .i64) w A1 l1.length l1) (hc1 : l1.length ≤ c1) (h : vinculumlaw10_PositionIndex.f k a0_0 a0_1 a0_2 l0_3 l1 a2 = some r) :
    Calls Tryd.prog 6 #[.agg #[.int .i64 a0_0, .string a0_1, .int .i64 a0_2, .slice A0_3 l0_3.length c0_3], .slice A1 l1.length c1, .int .i64 a2] w fun e w' => e = .returned (.bool r) ∧ Below w.heap.size w w' := by
  have hu36 := Tryd.underlying36
  have HR0_3 := Aside0.mk hr0_3
  have HC0_3 := Aside0.mk hc0_3
  clear hr0_3 hc0_3
  have HR1 := Aside0.mk hr1
  have HC1 := Aside0.mk hc1
  clear hr1 hc1
  have HB := Aside0.mk (Below.refl w.heap.size w)
  have H : ((vinculumlaw10_awake.f k).bind fun t487 => (if t487 = true then ((vinculumlaw10_few.f k a0_0 a0_1 a0_2 l0_3 l1).bind fun t488 => (vinculumlaw10_PositionIndex.j0 k l1 a2 (!t488) a0_0 a0_1 a0_2 l0_3)) else (vinculumlaw10_PositionIndex.j0 k l1 a2 true a0_0 a0_1 a0_2 l0_3))) = some r := h
  clear h
  have HC4 := Aside0.mk H
  clear H
  go_enter Tryd.func6, Tryd.ntmps6
  go_upto_region 1 with (first | ((with_reducible refine gate_dst (N := 3) rfl ?_); refine box_event ?hg (N := 3) ?hd (cs := #[.int .i64 a0_0, .string a0_1, .int .i64 a0_2, .slice A0_3 l0_3.length c0_3]) (t := 36) ?hr ?_; (case hd => rfl); (case hg => rfl); (case hr => first | (go_simp; done) | (go_simp; rfl)); intro gb486 hg w5 hbox hb; have n0_ := Aside0.mk (below_step (by repeat (first | (with_reducible first | exact HB.out | apply below_alloc | apply pw_below_drewN | apply below_drew1) | exact HB.out)) hb); have n1_ := Aside0.mk (hbox); have n2_ := Aside0.mk ((by rw [hg]; exact (below_size (by repeat (first | (with_reducible first | exact HB.out | apply below_alloc | apply pw_below_drewN | apply below_drew1) | exact HB.out))) : w.heap.size ≤ gb486)); have n3_ := Aside0.mk ((by rw [hg]; exact (below_size (by repeat (first | (with_reducible first | exact HB.out | apply below_alloc | apply pw_below_drewN | apply below_drew1) | exact HB.out))) : w.heap.size ≤ gb486)); clear HB; have HB := n0_; have BK486 := n1_; have GW486 := n2_; have GE486 := n3_; clear n0_ n1_ n2_ n3_; clear hb hbox hg))
  (try simp only [Act.put, List.setIfInBounds_toArray, List.set_cons_zero, List.set_cons_succ])
  go_cut [22] (fun v22 wc => ∃ (kq : Nat) (x22_3 : Bool), v22 = .bool x22_3 ∧ Aside0 (vinculumlaw10_PositionIndex.j0 kq l1 a2 x22_3 a0_0 a0_1 a0_2 l0_3 = some r) ∧ Aside0 (kq ≤ k) ∧ Aside0 (wc.heap[gb486]? = some (.cells #[.int .i64 a0_0, .string a0_1, .int .i64 a0_2, (.slice A0_3 l0_3.length c0_3)] 36 (0, 0))) ∧ Aside0 (Below w.heap.size w wc))
  case first =>
    have H := HC4.out
    clear HC4
    replace H := Option.bind_eq_some_iff.mp H
    obtain ⟨t487, A60, H⟩ := H
    replace H : (if t487 = true then ((vinculumlaw10_few.f k a0_0 a0_1 a0_2 l0_3 l1).bind fun t488 => (vinculumlaw10_PositionIndex.j0 k l1 a2 (!t488) a0_0 a0_1 a0_2 l0_3)) else (vinculumlaw10_PositionIndex.j0 k l1 a2 true a0_0 a0_1 a0_2 l0_3)) = some r := H
    have A6 := Aside0.mk A60
    clear A60
    by_cases c7 : t487 = true
    · subst c7
      have H1 : ((vinculumlaw10_few.f k a0_0 a0_1 a0_2 l0_3 l1).bind fun t488 => (vinculumlaw10_PositionIndex.j0 k l1 a2 (!t488) a0_0 a0_1 a0_2 l0_3)) = some r := by rw [if_pos rfl] at H; exact H
      clear H
      have H := H1
      clear H1
      replace H := Option.bind_eq_some_iff.mp H
      obtain ⟨t488, A80, H⟩ := H
      replace H : (vinculumlaw10_PositionIndex.j0 k l1 a2 (!t488) a0_0 a0_1 a0_2 l0_3) = some r := H
      have A8 := Aside0.mk A80
      clear A80
      have H' := Aside0.mk H
      clear H
      go_wp2_with (first | ((with_reducible refine gate_callee (f := 25) rfl ?_); refine goesL_ (some 15) rfl rfl Tryd.func25 (by kernel_rfl) rfl #[] rfl (by (try simp only [List.map_toArray, List.map_cons, List.map_nil]); first | done | rfl | (simp only [List.length_drop, List.length_take]; rfl)) ?_; (with_reducible refine (vinculumlaw10_awake.calls k  true _ A6.out).mono ?_); rintro e w9 ⟨rfl, hb⟩; refine ⟨_, rfl, ?_⟩; have n0_ := Aside0.mk (blk_below (g := gb486) (o := .cells #[.int .i64 a0_0, .string a0_1, .int .i64 a0_2, .slice A0_3 l0_3.length c0_3] 36 (0, 0)) (by (with_reducible repeat (first | refine blk_drewN ?_ _ | refine blk_drew ?_ | refine blk_alloc ?_ _)); exact BK486.out) hb); have n1_ := Aside0.mk (below_step (by repeat (first | (with_reducible first | exact HB.out | apply below_alloc | apply pw_below_drewN | apply below_drew1 | refine below_set ?_ GE486.out) | exact HB.out)) hb); clear BK486; clear HB; have BK486 := n0_; have HB := n1_; clear n0_ n1_; (try clear hb); (try clear hb2); (try clear hk); (try clear hi); have hcz10_0 : w9.cell? ⟨gb486, 0, none⟩ = some (.int .i64 a0_0) := (blk_cell BK486.out 0).trans rfl; have hcz10_1 : w9.cell? ⟨gb486, 1, none⟩ = some (.string a0_1) := (blk_cell BK486.out 1).trans rfl; have hcz10_2 : w9.cell? ⟨gb486, 2, none⟩ = some (.int .i64 a0_2) := (blk_cell BK486.out 2).trans rfl; have hcz10_3 : w9.cell? ⟨gb486, 3, none⟩ = some (.slice A0_3 l0_3.length c0_3) := (blk_cell BK486.out 3).trans rfl; have hfz10_0 := blk_frozen BK486.out 0; have hfz10_1 := blk_frozen BK486.out 1; have hfz10_2 := blk_frozen BK486.out 2; have hfz10_3 := blk_frozen BK486.out 3) | (go_at_call 26; (with_reducible refine (vinculumlaw10_few.calls k a0_0 a0_1 a0_2 _ _ l0_3 _ _ l1 t488 _ ?side1 ?side2 ?side3 ?side4 A8.out).mono ?_); (case side1 => repeat (first | exact (Kd.C_below HR0_3.out HB.out) | (with_reducible refine Kd.C_alloc ?_ _) | (with_reducible refine Kd.C_drewN ?_ _) | (with_reducible refine Kd.C_drew ?_))); (case side2 => exact HC0_3.out); (case side3 => repeat (first | exact (Kd.C_below HR1.out HB.out) | (with_reducible refine Kd.C_alloc ?_ _) | (with_reducible refine Kd.C_drewN ?_ _) | (with_reducible refine Kd.C_drew ?_))); (case side4 => exact HC1.out); rintro e w11 ⟨rfl, hb⟩; have n0_ := Aside0.mk (blk_below (g := gb486) (o := .cells #[.int .i64 a0_0, .string a0_1, .int .i64 a0_2, .slice A0_3 l0_3.length c0_3] 36 (0, 0)) (by (with_reducible repeat (first | refine blk_drewN ?_ _ | refine blk_drew ?_ | refine blk_alloc ?_ _)); exact BK486.out) hb); have n1_ := Aside0.mk (below_step (by repeat (first | (with_reducible first | exact HB.out | apply below_alloc | apply pw_below_drewN | apply below_drew1 | refine below_set ?_ GE486.out) | exact HB.out)) hb); clear BK486; clear HB; have BK486 := n0_; have HB := n1_; clear n0_ n1_; (try clear hb); (try clear hb2); (try clear hk); (try clear hi)))
      go_meet
      case rel => exact ⟨_, (!t488), (by first | rfl | (simp; done) | (simp [*]; done)), H', ⟨by first | omega | exact Nat.le_refl _⟩, ⟨by (with_reducible repeat (first | refine blk_drewN ?_ _ | refine blk_drew ?_ | refine blk_alloc ?_ _)); exact BK486.out⟩, ⟨by repeat (first | (with_reducible first | exact HB.out | apply below_alloc | apply pw_below_drewN | apply below_drew1 | refine below_set ?_ GE486.out) | exact HB.out)⟩⟩
    · replace c7 := Bool.eq_false_iff.mpr c7
      subst c7
      have H1 : (vinculumlaw10_PositionIndex.j0 k l1 a2 true a0_0 a0_1 a0_2 l0_3) = some r := by rw [if_neg (show ¬ (false = true) by decide)] at H; exact H
      clear H
      have H := H1
      clear H1
      have H' := Aside0.mk H
      clear H
      go_wp2_with (first | ((with_reducible refine gate_callee (f := 25) rfl ?_); refine goesL_ (some 15) rfl rfl Tryd.func25 (by kernel_rfl) rfl #[] rfl (by (try simp only [List.map_toArray, List.map_cons, List.map_nil]); first | done | rfl | (simp only [List.length_drop, List.length_take]; rfl)) ?_; (with_reducible refine (vinculumlaw10_awake.calls k  false _ A6.out).mono ?_); rintro e w12 ⟨rfl, hb⟩; refine ⟨_, rfl, ?_⟩; have n0_ := Aside0.mk (blk_below (g := gb486) (o := .cells #[.int .i64 a0_0, .string a0_1, .int .i64 a0_2, .slice A0_3 l0_3.length c0_3] 36 (0, 0)) (by (with_reducible repeat (first | refine blk_drewN ?_ _ | refine blk_drew ?_ | refine blk_alloc ?_ _)); exact BK486.out) hb); have n1_ := Aside0.mk (below_step (by repeat (first | (with_reducible first | exact HB.out | apply below_alloc | apply pw_below_drewN | apply below_drew1 | refine below_set ?_ GE486.out) | exact HB.out)) hb); clear BK486; clear HB; have BK486 := n0_; have HB := n1_; clear n0_ n1_; (try clear hb); (try clear hb2); (try clear hk); (try clear hi)))
      go_meet
      case rel => exact ⟨_, (true), (by first | rfl | (simp; done) | (simp [*]; done)), H', ⟨by first | omega | exact Nat.le_refl _⟩, ⟨by (with_reducible repeat (first | refine blk_drewN ?_ _ | refine blk_drew ?_ | refine blk_alloc ?_ _)); exact BK486.out⟩, ⟨by repeat (first | (with_reducible first | exact HB.out | apply below_alloc | apply pw_below_drewN | apply below_drew1 | refine below_set ?_ GE486.out) | exact HB.out)⟩⟩
  case rest =>
    clear HC4
    try clear c1
    try clear c2
    try clear p2
    try clear c6
    try clear c7
    try clear hcz10_0
    try clear hcz10_1
    try clear hcz10_2
    try clear hcz10_3
    try clear hfz10_0
    try clear hfz10_1
    try clear hfz10_2
    try clear hfz10_3
    obtain ⟨kq, x22_3, rfl, HA, HJ3, BK486, HB⟩ := hcut
    cases kq with
    | zero => exact absurd HA.out (by simp [vinculumlaw10_PositionIndex.j0])
    | succ kj3 =>
      have H := HA.out
      clear HA
      simp only [vinculumlaw10_PositionIndex.j0] at H
      by_cases c13 : x22_3 = true
      · subst c13
        have H1 : ((vinculumlaw10_awake.f kj3).bind fun t489 => (some t489)) = some r := by rw [if_pos rfl] at H; exact H
        clear H
        have H := H1
        clear H1
        replace H := Option.bind_eq_some_iff.mp H
        obtain ⟨t489, A140, H⟩ := H
        replace H : (some t489) = some r := H
        have A14 := Aside0.mk A140
        clear A140
        obtain rfl := Option.some.inj H
        go_wp2_with (first | ((with_reducible refine gate_callee (f := 25) rfl ?_); refine goesL_ (some 23) rfl rfl Tryd.func25 (by kernel_rfl) rfl #[] rfl (by (try simp only [List.map_toArray, List.map_cons, List.map_nil]); first | done | rfl | (simp only [List.length_drop, List.length_take]; rfl)) ?_; (with_reducible refine (vinculumlaw10_awake.calls kj3  t489 _ A14.out).mono ?_); rintro e w15 ⟨rfl, hb⟩; refine ⟨_, rfl, ?_⟩; have n0_ := Aside0.mk (blk_below (g := gb486) (o := .cells #[.int .i64 a0_0, .string a0_1, .int .i64 a0_2, .slice A0_3 l0_3.length c0_3] 36 (0, 0)) (by (with_reducible repeat (first | refine blk_drewN ?_ _ | refine blk_drew ?_ | refine blk_alloc ?_ _)); exact BK486.out) hb); have n1_ := Aside0.mk (below_step (by repeat (first | (with_reducible first | exact HB.out | apply below_alloc | apply pw_below_drewN | apply below_drew1 | refine below_set ?_ GE486.out) | exact HB.out)) hb); clear BK486; clear HB; have BK486 := n0_; have HB := n1_; clear n0_ n1_; (try clear hb); (try clear hb2); (try clear hk); (try clear hi)))
        go_ret
        exact ⟨by first | rfl | (simp [errW_none, errW_some] <;> rfl) | (simp [*, errW_none, errW_some] <;> rfl), by repeat (first | (with_reducible first | exact HB.out | apply below_alloc | apply pw_below_drewN | apply below_drew1 | refine below_set ?_ GE486.out) | exact HB.out)⟩
      · replace c13 := Bool.eq_false_iff.mpr c13
        subst c13
        have H1 : ((position_Index.f kj3 a0_0 a0_1 a0_2 l0_3 l1).bind fun bt490 => ((vinculumref10_Index.f kj3 a0_0 a0_1 a0_2 l0_3 l1).bind fun bt492 => ((position_At.f kj3 a0_0 a0_1 a0_2 l0_3 a2).bind fun bt494 => ((vinculumref10_At.f kj3 a0_0 a0_1 a0_2 l0_3 a2).bind fun bt498 => (if bt490.2 = bt492.2 then (if bt490.1 = bt492.1 then (if bt494.2 = bt498.2 then ((vinculumref10_Same.f kj3 bt494.1 bt498.1).bind fun t502 => (some t502)) else (some false)) else (some false)) else (some false)))))) = some r := by rw [if_neg (show ¬ (false = true) by decide)] at H; exact H
        clear H
        have H := H1
        clear H1
        replace H := Option.bind_eq_some_iff.mp H
        obtain ⟨⟨t490, t491⟩, A160, H⟩ := H
        replace H : ((vinculumref10_Index.f kj3 a0_0 a0_1 a0_2 l0_3 l1).bind fun bt492 => ((position_At.f kj3 a0_0 a0_1 a0_2 l0_3 a2).bind fun bt494 => ((vinculumref10_At.f kj3 a0_0 a0_1 a0_2 l0_3 a2).bind fun bt498 => (if t491 = bt492.2 then (if t490 = bt492.1 then (if bt494.2 = bt498.2 then ((vinculumref10_Same.f kj3 bt494.1 bt498.1).bind fun t502 => (some t502)) else (some false)) else (some false)) else (some false))))) = some r := H
        have A16 := Aside0.mk A160
        clear A160
        replace H := Option.bind_eq_some_iff.mp H
        obtain ⟨⟨t492, t493⟩, A170, H⟩ := H
        replace H : ((position_At.f kj3 a0_0 a0_1 a0_2 l0_3 a2).bind fun bt494 => ((vinculumref10_At.f kj3 a0_0 a0_1 a0_2 l0_3 a2).bind fun bt498 => (if t491 = t493 then (if t490 = t492 then (if bt494.2 = bt498.2 then ((vinculumref10_Same.f kj3 bt494.1 bt498.1).bind fun t502 => (some t502)) else (some false)) else (some false)) else (some false)))) = some r := H
        have A17 := Aside0.mk A170
        clear A170
        replace H := Option.bind_eq_some_iff.mp H
        obtain ⟨⟨t494, t497⟩, A180, H⟩ := H
        replace H : ((vinculumref10_At.f kj3 a0_0 a0_1 a0_2 l0_3 a2).bind fun bt498 => (if t491 = t493 then (if t490 = t492 then (if t497 = bt498.2 then ((vinculumref10_Same.f kj3 t494 bt498.1).bind fun t502 => (some t502)) else (some false)) else (some false)) else (some false))) = some r := H
        have A18 := Aside0.mk A180
        clear A180
        replace H := Option.bind_eq_some_iff.mp H
        obtain ⟨⟨t498, t501⟩, A190, H⟩ := H
        replace H : (if t491 = t493 then (if t490 = t492 then (if t497 = t501 then ((vinculumref10_Same.f kj3 t494 t498).bind fun t502 => (some t502)) else (some false)) else (some false)) else (some false)) = some r := H
        have A19 := Aside0.mk A190
        clear A190
        by_cases c20 : t491 = t493
        · rw [if_pos c20] at H
          have c20b0 : (t491 == t493) = true := beq_iff_eq.mpr c20
          have c20b1 : (t491 != t493) = false := bne_eq_false_iff_eq.mpr c20
          clear c20
          by_cases c21 : t490 = t492
          · rw [if_pos c21] at H
            have c21b0 : (t490 == t492) = true := beq_iff_eq.mpr c21
            have c21b1 : (t490 != t492) = false := bne_eq_false_iff_eq.mpr c21
            clear c21
            by_cases c22 : t497 = t501
            · rw [if_pos c22] at H
              have c22b0 : (t497 == t501) = true := beq_iff_eq.mpr c22
              have c22b1 : (t497 != t501) = false := bne_eq_false_iff_eq.mpr c22
              clear c22
              replace H := Option.bind_eq_some_iff.mp H
              obtain ⟨t502, A230, H⟩ := H
              replace H : (some t502) = some r := H
              have A23 := Aside0.mk A230
              clear A230
              obtain rfl := Option.some.inj H
              have hcz24_0 : wc.cell? ⟨gb486, 0, none⟩ = some (.int .i64 a0_0) := (blk_cell BK486.out 0).trans rfl
              have hcz24_1 : wc.cell? ⟨gb486, 1, none⟩ = some (.string a0_1) := (blk_cell BK486.out 1).trans rfl
              have hcz24_2 : wc.cell? ⟨gb486, 2, none⟩ = some (.int .i64 a0_2) := (blk_cell BK486.out 2).trans rfl
              have hcz24_3 : wc.cell? ⟨gb486, 3, none⟩ = some (.slice A0_3 l0_3.length c0_3) := (blk_cell BK486.out 3).trans rfl
              have hfz24_0 := blk_frozen BK486.out 0
              have hfz24_1 := blk_frozen BK486.out 1
              have hfz24_2 := blk_frozen BK486.out 2
              have hfz24_3 := blk_frozen BK486.out 3
              go_wp2_with (first | ((with_reducible refine gate_callee (f := 27) rfl ?_); refine goesL_ (some 27) rfl rfl Tryd.func27 (by kernel_rfl) rfl #[.agg #[.int .i64 a0_0, .string a0_1, .int .i64 a0_2, .slice A0_3 l0_3.length c0_3], .slice A1 l1.length c1] rfl (by (try simp only [List.map_toArray, List.map_cons, List.map_nil]); first | done | rfl | (simp only [List.length_drop, List.length_take]; rfl)) ?_; (with_reducible refine (position_Index.calls kj3 a0_0 a0_1 a0_2 _ _ l0_3 _ _ l1 t490 t491 _ ?side1 ?side2 ?side3 ?side4 A16.out).mono ?_); (case side1 => repeat (first | exact (Kd.C_below HR0_3.out HB.out) | (with_reducible refine Kd.C_alloc ?_ _) | (with_reducible refine Kd.C_drewN ?_ _) | (with_reducible refine Kd.C_drew ?_))); (case side2 => exact HC0_3.out); (case side3 => repeat (first | exact (Kd.C_below HR1.out HB.out) | (with_reducible refine Kd.C_alloc ?_ _) | (with_reducible refine Kd.C_drewN ?_ _) | (with_reducible refine Kd.C_drew ?_))); (case side4 => exact HC1.out); rintro e w25 ⟨rfl, hb⟩; refine ⟨_, rfl, ?_⟩; have n0_ := Aside0.mk (blk_below (g := gb486) (o := .cells #[.int .i64 a0_0, .string a0_1, .int .i64 a0_2, .slice A0_3 l0_3.length c0_3] 36 (0, 0)) (by (with_reducible repeat (first | refine blk_drewN ?_ _ | refine blk_drew ?_ | refine blk_alloc ?_ _)); exact BK486.out) hb); have n1_ := Aside0.mk (below_step (by repeat (first | (with_reducible first | exact HB.out | apply below_alloc | apply pw_below_drewN | apply below_drew1 | refine below_set ?_ GE486.out) | exact HB.out)) hb); clear BK486; clear HB; have BK486 := n0_; have HB := n1_; clear n0_ n1_; (try clear hb); (try clear hb2); (try clear hk); (try clear hi); have hcz26_0 : w25.cell? ⟨gb486, 0, none⟩ = some (.int .i64 a0_0) := (blk_cell BK486.out 0).trans rfl; have hcz26_1 : w25.cell? ⟨gb486, 1, none⟩ = some (.string a0_1) := (blk_cell BK486.out 1).trans rfl; have hcz26_2 : w25.cell? ⟨gb486, 2, none⟩ = some (.int .i64 a0_2) := (blk_cell BK486.out 2).trans rfl; have hcz26_3 : w25.cell? ⟨gb486, 3, none⟩ = some (.slice A0_3 l0_3.length c0_3) := (blk_cell BK486.out 3).trans rfl; have hfz26_0 := blk_frozen BK486.out 0; have hfz26_1 := blk_frozen BK486.out 1; have hfz26_2 := blk_frozen BK486.out 2; have hfz26_3 := blk_frozen BK486.out 3) | ((with_reducible refine gate_callee (f := 28) rfl ?_); refine goesL_ (some 33) rfl rfl Tryd.func28 (by kernel_rfl) rfl #[.agg #[.int .i64 a0_0, .string a0_1, .int .i64 a0_2, .slice A0_3 l0_3.length c0_3], .slice A1 l1.length c1] rfl (by (try simp only [List.map_toArray, List.map_cons, List.map_nil]); first | done | rfl | (simp only [List.length_drop, List.length_take]; rfl)) ?_; (with_reducible refine (vinculumref10_Index.calls kj3 a0_0 a0_1 a0_2 _ _ l0_3 _ _ l1 t492 t493 _ ?side1 ?side2 ?side3 ?side4 A17.out).mono ?_); (case side1 => repeat (first | exact (Kd.C_below HR0_3.out HB.out) | (with_reducible refine Kd.C_alloc ?_ _) | (with_reducible refine Kd.C_drewN ?_ _) | (with_reducible refine Kd.C_drew ?_))); (case side2 => exact HC0_3.out); (case side3 => repeat (first | exact (Kd.C_below HR1.out HB.out) | (with_reducible refine Kd.C_alloc ?_ _) | (with_reducible refine Kd.C_drewN ?_ _) | (with_reducible refine Kd.C_drew ?_))); (case side4 => exact HC1.out); rintro e w27 ⟨rfl, hb⟩; refine ⟨_, rfl, ?_⟩; have n0_ := Aside0.mk (blk_below (g := gb486) (o := .cells #[.int .i64 a0_0, .string a0_1, .int .i64 a0_2, .slice A0_3 l0_3.length c0_3] 36 (0, 0)) (by (with_reducible repeat (first | refine blk_drewN ?_ _ | refine blk_drew ?_ | refine blk_alloc ?_ _)); exact BK486.out) hb); have n1_ := Aside0.mk (below_step (by repeat (first | (with_reducible first | exact HB.out | apply below_alloc | apply pw_below_drewN | apply below_drew1 | refine below_set ?_ GE486.out) | exact HB.out)) hb); clear BK486; clear HB; have BK486 := n0_; have HB := n1_; clear n0_ n1_; (try clear hb); (try clear hb2); (try clear hk); (try clear hi); have hcz28_0 : w27.cell? ⟨gb486, 0, none⟩ = some (.int .i64 a0_0) := (blk_cell BK486.out 0).trans rfl; have hcz28_1 : w27.cell? ⟨gb486, 1, none⟩ = some (.string a0_1) := (blk_cell BK486.out 1).trans rfl; have hcz28_2 : w27.cell? ⟨gb486, 2, none⟩ = some (.int .i64 a0_2) := (blk_cell BK486.out 2).trans rfl; have hcz28_3 : w27.cell? ⟨gb486, 3, none⟩ = some (.slice A0_3 l0_3.length c0_3) := (blk_cell BK486.out 3).trans rfl; have hfz28_0 := blk_frozen BK486.out 0; have hfz28_1 := blk_frozen BK486.out 1; have hfz28_2 := blk_frozen BK486.out 2; have hfz28_3 := blk_frozen BK486.out 3) | ((with_reducible refine gate_callee (f := 29) rfl ?_); refine goesL_ (some 39) rfl rfl Tryd.func29 (by kernel_rfl) rfl #[.agg #[.int .i64 a0_0, .string a0_1, .int .i64 a0_2, .slice A0_3 l0_3.length c0_3], .int .i64 a2] rfl (by (try simp only [List.map_toArray, List.map_cons, List.map_nil]); first | done | rfl | (simp only [List.length_drop, List.length_take]; rfl)) ?_; (with_reducible refine (position_At.calls kj3 a0_0 a0_1 a0_2 _ _ l0_3 a2 t494 t497 _ ?side1 ?side2 A18.out).mono ?_); (case side1 => repeat (first | exact (Kd.C_below HR0_3.out HB.out) | (with_reducible refine Kd.C_alloc ?_ _) | (with_reducible refine Kd.C_drewN ?_ _) | (with_reducible refine Kd.C_drew ?_))); (case side2 => exact HC0_3.out); rintro e w29 ⟨v495, rfl, ho0, hb⟩; refine ⟨_, rfl, ?_⟩; have n0_ := Aside0.mk (Kd.V_lower (Kd.V_mono (ok' := fun k_ => k_ ≠ gb486) ho0 (fun k_ hk_ => (Kd.freshB (g := gb486) (o := .cells #[.int .i64 a0_0, .string a0_1, .int .i64 a0_2, .slice A0_3 l0_3.length c0_3] 36 (0, 0)) (by (with_reducible repeat (first | refine blk_drewN ?_ _ | refine blk_drew ?_ | refine blk_alloc ?_ _)); exact BK486.out) k_ hk_))) (below_size (by repeat (first | (with_reducible first | exact HB.out | apply below_alloc | apply pw_below_drewN | apply below_drew1 | refine below_set ?_ GE486.out) | exact HB.out)))); have n1_ := Aside0.mk (blk_below (g := gb486) (o := .cells #[.int .i64 a0_0, .string a0_1, .int .i64 a0_2, .slice A0_3 l0_3.length c0_3] 36 (0, 0)) (by (with_reducible repeat (first | refine blk_drewN ?_ _ | refine blk_drew ?_ | refine blk_alloc ?_ _)); exact BK486.out) hb); have n2_ := Aside0.mk (below_step (by repeat (first | (with_reducible first | exact HB.out | apply below_alloc | apply pw_below_drewN | apply below_drew1 | refine below_set ?_ GE486.out) | exact HB.out)) hb); clear BK486; clear HB; have HO496 := n0_; have BK486 := n1_; have HB := n2_; clear n0_ n1_ n2_; (try clear hb); (try clear hb2); (try clear hk); (try clear hi); (try clear ho0); have hcz30_0 : w29.cell? ⟨gb486, 0, none⟩ = some (.int .i64 a0_0) := (blk_cell BK486.out 0).trans rfl; have hcz30_1 : w29.cell? ⟨gb486, 1, none⟩ = some (.string a0_1) := (blk_cell BK486.out 1).trans rfl; have hcz30_2 : w29.cell? ⟨gb486, 2, none⟩ = some (.int .i64 a0_2) := (blk_cell BK486.out 2).trans rfl; have hcz30_3 : w29.cell? ⟨gb486, 3, none⟩ = some (.slice A0_3 l0_3.length c0_3) := (blk_cell BK486.out 3).trans rfl; have hfz30_0 := blk_frozen BK486.out 0; have hfz30_1 := blk_frozen BK486.out 1; have hfz30_2 := blk_frozen BK486.out 2; have hfz30_3 := blk_frozen BK486.out 3) | ((with_reducible refine gate_callee (f := 30) rfl ?_); refine goesL_ (some 45) rfl rfl Tryd.func30 (by kernel_rfl) rfl #[.agg #[.int .i64 a0_0, .string a0_1, .int .i64 a0_2, .slice A0_3 l0_3.length c0_3], .int .i64 a2] rfl (by (try simp only [List.map_toArray, List.map_cons, List.map_nil]); first | done | rfl | (simp only [List.length_drop, List.length_take]; rfl)) ?_; (with_reducible refine (vinculumref10_At.calls kj3 a0_0 a0_1 a0_2 _ _ l0_3 a2 t498 t501 _ ?side1 ?side2 A19.out).mono ?_); (case side1 => repeat (first | exact (Kd.C_below HR0_3.out HB.out) | (with_reducible refine Kd.C_alloc ?_ _) | (with_reducible refine Kd.C_drewN ?_ _) | (with_reducible refine Kd.C_drew ?_))); (case side2 => exact HC0_3.out); rintro e w31 ⟨v499, rfl, ho0, hb⟩; refine ⟨_, rfl, ?_⟩; have n0_ := Aside0.mk (Kd.V_below (by (with_reducible repeat (first | apply Kd.V_alloc | apply Kd.V_drewN | apply Kd.V_drew)); exact HO496.out) hb); have n1_ := Aside0.mk (Kd.V_lower (Kd.V_mono (ok' := fun k_ => k_ ≠ gb486) ho0 (fun k_ hk_ => (Kd.freshB (g := gb486) (o := .cells #[.int .i64 a0_0, .string a0_1, .int .i64 a0_2, .slice A0_3 l0_3.length c0_3] 36 (0, 0)) (by (with_reducible repeat (first | refine blk_drewN ?_ _ | refine blk_drew ?_ | refine blk_alloc ?_ _)); exact BK486.out) k_ hk_))) (below_size (by repeat (first | (with_reducible first | exact HB.out | apply below_alloc | apply pw_below_drewN | apply below_drew1 | refine below_set ?_ GE486.out) | exact HB.out)))); have n2_ := Aside0.mk (blk_below (g := gb486) (o := .cells #[.int .i64 a0_0, .string a0_1, .int .i64 a0_2, .slice A0_3 l0_3.length c0_3] 36 (0, 0)) (by (with_reducible repeat (first | refine blk_drewN ?_ _ | refine blk_drew ?_ | refine blk_alloc ?_ _)); exact BK486.out) hb); have n3_ := Aside0.mk (below_step (by repeat (first | (with_reducible first | exact HB.out | apply below_alloc | apply pw_below_drewN | apply below_drew1 | refine below_set ?_ GE486.out) | exact HB.out)) hb); clear HO496; clear BK486; clear HB; have HO496 := n0_; have HO500 := n1_; have BK486 := n2_; have HB := n3_; clear n0_ n1_ n2_ n3_; (try clear hb); (try clear hb2); (try clear hk); (try clear hi); (try clear ho0); obtain ⟨Ao32, co32, eo32⟩ := Kd.V_slice HO496.out; subst eo32; obtain ⟨Ao33, co33, eo33⟩ := Kd.V_slice HO500.out; subst eo33) | (go_at_call 31; (with_reducible refine (vinculumref10_Same.calls kj3 _ _ t494 _ _ t498 t502 _ ?side1 ?side2 ?side3 ?side4 A23.out).mono ?_); (case side1 => repeat (first | exact (Kd.V_reads' HO496.out).2.2 | (with_reducible refine Kd.C_alloc ?_ _) | (with_reducible refine Kd.C_drewN ?_ _) | (with_reducible refine Kd.C_drew ?_))); (case side2 => exact (Kd.V_reads' HO496.out).2.1); (case side3 => repeat (first | exact (Kd.V_reads' HO500.out).2.2 | (with_reducible refine Kd.C_alloc ?_ _) | (with_reducible refine Kd.C_drewN ?_ _) | (with_reducible refine Kd.C_drew ?_))); (case side4 => exact (Kd.V_reads' HO500.out).2.1); rintro e w' ⟨rfl, ⟨nd, rfl⟩⟩))
              go_ret
              exact ⟨by first | rfl | (simp [errW_none, errW_some] <;> rfl) | (simp [*, errW_none, errW_some] <;> rfl), by repeat (first | (with_reducible first | exact HB.out | apply below_alloc | apply pw_below_drewN | apply below_drew1 | refine below_set ?_ GE486.out) | exact HB.out)⟩
            · rw [if_neg c22] at H
              have c22b0 : (t497 == t501) = false := beq_eq_false_iff_ne.mpr c22
              have c22b1 : (t497 != t501) = true := bne_iff_ne.mpr c22
              obtain rfl := Option.some.inj H
              have hcz34_0 : wc.cell? ⟨gb486, 0, none⟩ = some (.int .i64 a0_0) := (blk_cell BK486.out 0).trans rfl
              have hcz34_1 : wc.cell? ⟨gb486, 1, none⟩ = some (.string a0_1) := (blk_cell BK486.out 1).trans rfl
              have hcz34_2 : wc.cell? ⟨gb486, 2, none⟩ = some (.int .i64 a0_2) := (blk_cell BK486.out 2).trans rfl
              have hcz34_3 : wc.cell? ⟨gb486, 3, none⟩ = some (.slice A0_3 l0_3.length c0_3) := (blk_cell BK486.out 3).trans rfl
              have hfz34_0 := blk_frozen BK486.out 0
              have hfz34_1 := blk_frozen BK486.out 1
              have hfz34_2 := blk_frozen BK486.out 2
              have hfz34_3 := blk_frozen BK486.out 3
              go_wp2_with (first | ((with_reducible refine gate_callee (f := 27) rfl ?_); refine goesL_ (some 27) rfl rfl Tryd.func27 (by kernel_rfl) rfl #[.agg #[.int .i64 a0_0, .string a0_1, .int .i64 a0_2, .slice A0_3 l0_3.length c0_3], .slice A1 l1.length c1] rfl (by (try simp only [List.map_toArray, List.map_cons, List.map_nil]); first | done | rfl | (simp only [List.length_drop, List.length_take]; rfl)) ?_; (with_reducible refine (position_Index.calls kj3 a0_0 a0_1 a0_2 _ _ l0_3 _ _ l1 t490 t491 _ ?side1 ?side2 ?side3 ?side4 A16.out).mono ?_); (case side1 => repeat (first | exact (Kd.C_below HR0_3.out HB.out) | (with_reducible refine Kd.C_alloc ?_ _) | (with_reducible refine Kd.C_drewN ?_ _) | (with_reducible refine Kd.C_drew ?_))); (case side2 => exact HC0_3.out); (case side3 => repeat (first | exact (Kd.C_below HR1.out HB.out) | (with_reducible refine Kd.C_alloc ?_ _) | (with_reducible refine Kd.C_drewN ?_ _) | (with_reducible refine Kd.C_drew ?_))); (case side4 => exact HC1.out); rintro e w35 ⟨rfl, hb⟩; refine ⟨_, rfl, ?_⟩; have n0_ := Aside0.mk (blk_below (g := gb486) (o := .cells #[.int .i64 a0_0, .string a0_1, .int .i64 a0_2, .slice A0_3 l0_3.length c0_3] 36 (0, 0)) (by (with_reducible repeat (first | refine blk_drewN ?_ _ | refine blk_drew ?_ | refine blk_alloc ?_ _)); exact BK486.out) hb); have n1_ := Aside0.mk (below_step (by repeat (first | (with_reducible first | exact HB.out | apply below_alloc | apply pw_below_drewN | apply below_drew1 | refine below_set ?_ GE486.out) | exact HB.out)) hb); clear BK486; clear HB; have BK486 := n0_; have HB := n1_; clear n0_ n1_; (try clear hb); (try clear hb2); (try clear hk); (try clear hi); have hcz36_0 : w35.cell? ⟨gb486, 0, none⟩ = some (.int .i64 a0_0) := (blk_cell BK486.out 0).trans rfl; have hcz36_1 : w35.cell? ⟨gb486, 1, none⟩ = some (.string a0_1) := (blk_cell BK486.out 1).trans rfl; have hcz36_2 : w35.cell? ⟨gb486, 2, none⟩ = some (.int .i64 a0_2) := (blk_cell BK486.out 2).trans rfl; have hcz36_3 : w35.cell? ⟨gb486, 3, none⟩ = some (.slice A0_3 l0_3.length c0_3) := (blk_cell BK486.out 3).trans rfl; have hfz36_0 := blk_frozen BK486.out 0; have hfz36_1 := blk_frozen BK486.out 1; have hfz36_2 := blk_frozen BK486.out 2; have hfz36_3 := blk_frozen BK486.out 3) | ((with_reducible refine gate_callee (f := 28) rfl ?_); refine goesL_ (some 33) rfl rfl Tryd.func28 (by kernel_rfl) rfl #[.agg #[.int .i64 a0_0, .string a0_1, .int .i64 a0_2, .slice A0_3 l0_3.length c0_3], .slice A1 l1.length c1] rfl (by (try simp only [List.map_toArray, List.map_cons, List.map_nil]); first | done | rfl | (simp only [List.length_drop, List.length_take]; rfl)) ?_; (with_reducible refine (vinculumref10_Index.calls kj3 a0_0 a0_1 a0_2 _ _ l0_3 _ _ l1 t492 t493 _ ?side1 ?side2 ?side3 ?side4 A17.out).mono ?_); (case side1 => repeat (first | exact (Kd.C_below HR0_3.out HB.out) | (with_reducible refine Kd.C_alloc ?_ _) | (with_reducible refine Kd.C_drewN ?_ _) | (with_reducible refine Kd.C_drew ?_))); (case side2 => exact HC0_3.out); (case side3 => repeat (first | exact (Kd.C_below HR1.out HB.out) | (with_reducible refine Kd.C_alloc ?_ _) | (with_reducible refine Kd.C_drewN ?_ _) | (with_reducible refine Kd.C_drew ?_))); (case side4 => exact HC1.out); rintro e w37 ⟨rfl, hb⟩; refine ⟨_, rfl, ?_⟩; have n0_ := Aside0.mk (blk_below (g := gb486) (o := .cells #[.int .i64 a0_0, .string a0_1, .int .i64 a0_2, .slice A0_3 l0_3.length c0_3] 36 (0, 0)) (by (with_reducible repeat (first | refine blk_drewN ?_ _ | refine blk_drew ?_ | refine blk_alloc ?_ _)); exact BK486.out) hb); have n1_ := Aside0.mk (below_step (by repeat (first | (with_reducible first | exact HB.out | apply below_alloc | apply pw_below_drewN | apply below_drew1 | refine below_set ?_ GE486.out) | exact HB.out)) hb); clear BK486; clear HB; have BK486 := n0_; have HB := n1_; clear n0_ n1_; (try clear hb); (try clear hb2); (try clear hk); (try clear hi); have hcz38_0 : w37.cell? ⟨gb486, 0, none⟩ = some (.int .i64 a0_0) := (blk_cell BK486.out 0).trans rfl; have hcz38_1 : w37.cell? ⟨gb486, 1, none⟩ = some (.string a0_1) := (blk_cell BK486.out 1).trans rfl; have hcz38_2 : w37.cell? ⟨gb486, 2, none⟩ = some (.int .i64 a0_2) := (blk_cell BK486.out 2).trans rfl; have hcz38_3 : w37.cell? ⟨gb486, 3, none⟩ = some (.slice A0_3 l0_3.length c0_3) := (blk_cell BK486.out 3).trans rfl; have hfz38_0 := blk_frozen BK486.out 0; have hfz38_1 := blk_frozen BK486.out 1; have hfz38_2 := blk_frozen BK486.out 2; have hfz38_3 := blk_frozen BK486.out 3) | ((with_reducible refine gate_callee (f := 29) rfl ?_); refine goesL_ (some 39) rfl rfl Tryd.func29 (by kernel_rfl) rfl #[.agg #[.int .i64 a0_0, .string a0_1, .int .i64 a0_2, .slice A0_3 l0_3.length c0_3], .int .i64 a2] rfl (by (try simp only [List.map_toArray, List.map_cons, List.map_nil]); first | done | rfl | (simp only [List.length_drop, List.length_take]; rfl)) ?_; (with_reducible refine (position_At.calls kj3 a0_0 a0_1 a0_2 _ _ l0_3 a2 t494 t497 _ ?side1 ?side2 A18.out).mono ?_); (case side1 => repeat (first | exact (Kd.C_below HR0_3.out HB.out) | (with_reducible refine Kd.C_alloc ?_ _) | (with_reducible refine Kd.C_drewN ?_ _) | (with_reducible refine Kd.C_drew ?_))); (case side2 => exact HC0_3.out); rintro e w39 ⟨v495, rfl, ho0, hb⟩; refine ⟨_, rfl, ?_⟩; have n0_ := Aside0.mk (Kd.V_lower (Kd.V_mono (ok' := fun k_ => k_ ≠ gb486) ho0 (fun k_ hk_ => (Kd.freshB (g := gb486) (o := .cells #[.int .i64 a0_0, .string a0_1, .int .i64 a0_2, .slice A0_3 l0_3.length c0_3] 36 (0, 0)) (by (with_reducible repeat (first | refine blk_drewN ?_ _ | refine blk_drew ?_ | refine blk_alloc ?_ _)); exact BK486.out) k_ hk_))) (below_size (by repeat (first | (with_reducible first | exact HB.out | apply below_alloc | apply pw_below_drewN | apply below_drew1 | refine below_set ?_ GE486.out) | exact HB.out)))); have n1_ := Aside0.mk (blk_below (g := gb486) (o := .cells #[.int .i64 a0_0, .string a0_1, .int .i64 a0_2, .slice A0_3 l0_3.length c0_3] 36 (0, 0)) (by (with_reducible repeat (first | refine blk_drewN ?_ _ | refine blk_drew ?_ | refine blk_alloc ?_ _)); exact BK486.out) hb); have n2_ := Aside0.mk (below_step (by repeat (first | (with_reducible first | exact HB.out | apply below_alloc | apply pw_below_drewN | apply below_drew1 | refine below_set ?_ GE486.out) | exact HB.out)) hb); clear BK486; clear HB; have HO496 := n0_; have BK486 := n1_; have HB := n2_; clear n0_ n1_ n2_; (try clear hb); (try clear hb2); (try clear hk); (try clear hi); (try clear ho0); have hcz40_0 : w39.cell? ⟨gb486, 0, none⟩ = some (.int .i64 a0_0) := (blk_cell BK486.out 0).trans rfl; have hcz40_1 : w39.cell? ⟨gb486, 1, none⟩ = some (.string a0_1) := (blk_cell BK486.out 1).trans rfl; have hcz40_2 : w39.cell? ⟨gb486, 2, none⟩ = some (.int .i64 a0_2) := (blk_cell BK486.out 2).trans rfl; have hcz40_3 : w39.cell? ⟨gb486, 3, none⟩ = some (.slice A0_3 l0_3.length c0_3) := (blk_cell BK486.out 3).trans rfl; have hfz40_0 := blk_frozen BK486.out 0; have hfz40_1 := blk_frozen BK486.out 1; have hfz40_2 := blk_frozen BK486.out 2; have hfz40_3 := blk_frozen BK486.out 3) | ((with_reducible refine gate_callee (f := 30) rfl ?_); refine goesL_ (some 45) rfl rfl Tryd.func30 (by kernel_rfl) rfl #[.agg #[.int .i64 a0_0, .string a0_1, .int .i64 a0_2, .slice A0_3 l0_3.length c0_3], .int .i64 a2] rfl (by (try simp only [List.map_toArray, List.map_cons, List.map_nil]); first | done | rfl | (simp only [List.length_drop, List.length_take]; rfl)) ?_; (with_reducible refine (vinculumref10_At.calls kj3 a0_0 a0_1 a0_2 _ _ l0_3 a2 t498 t501 _ ?side1 ?side2 A19.out).mono ?_); (case side1 => repeat (first | exact (Kd.C_below HR0_3.out HB.out) | (with_reducible refine Kd.C_alloc ?_ _) | (with_reducible refine Kd.C_drewN ?_ _) | (with_reducible refine Kd.C_drew ?_))); (case side2 => exact HC0_3.out); rintro e w41 ⟨v499, rfl, ho0, hb⟩; refine ⟨_, rfl, ?_⟩; have n0_ := Aside0.mk (Kd.V_below (by (with_reducible repeat (first | apply Kd.V_alloc | apply Kd.V_drewN | apply Kd.V_drew)); exact HO496.out) hb); have n1_ := Aside0.mk (Kd.V_lower (Kd.V_mono (ok' := fun k_ => k_ ≠ gb486) ho0 (fun k_ hk_ => (Kd.freshB (g := gb486) (o := .cells #[.int .i64 a0_0, .string a0_1, .int .i64 a0_2, .slice A0_3 l0_3.length c0_3] 36 (0, 0)) (by (with_reducible repeat (first | refine blk_drewN ?_ _ | refine blk_drew ?_ | refine blk_alloc ?_ _)); exact BK486.out) k_ hk_))) (below_size (by repeat (first | (with_reducible first | exact HB.out | apply below_alloc | apply pw_below_drewN | apply below_drew1 | refine below_set ?_ GE486.out) | exact HB.out)))); have n2_ := Aside0.mk (blk_below (g := gb486) (o := .cells #[.int .i64 a0_0, .string a0_1, .int .i64 a0_2, .slice A0_3 l0_3.length c0_3] 36 (0, 0)) (by (with_reducible repeat (first | refine blk_drewN ?_ _ | refine blk_drew ?_ | refine blk_alloc ?_ _)); exact BK486.out) hb); have n3_ := Aside0.mk (below_step (by repeat (first | (with_reducible first | exact HB.out | apply below_alloc | apply pw_below_drewN | apply below_drew1 | refine below_set ?_ GE486.out) | exact HB.out)) hb); clear HO496; clear BK486; clear HB; have HO496 := n0_; have HO500 := n1_; have BK486 := n2_; have HB := n3_; clear n0_ n1_ n2_ n3_; (try clear hb); (try clear hb2); (try clear hk); (try clear hi); (try clear ho0)))
              go_ret
              exact ⟨by first | rfl | (simp [errW_none, errW_some] <;> rfl) | (simp [*, errW_none, errW_some] <;> rfl), by repeat (first | (with_reducible first | exact HB.out | apply below_alloc | apply pw_below_drewN | apply below_drew1 | refine below_set ?_ GE486.out) | exact HB.out)⟩
          · rw [if_neg c21] at H
            have c21b0 : (t490 == t492) = false := beq_eq_false_iff_ne.mpr c21
            have c21b1 : (t490 != t492) = true := bne_iff_ne.mpr c21
            obtain rfl := Option.some.inj H
            have hcz42_0 : wc.cell? ⟨gb486, 0, none⟩ = some (.int .i64 a0_0) := (blk_cell BK486.out 0).trans rfl
            have hcz42_1 : wc.cell? ⟨gb486, 1, none⟩ = some (.string a0_1) := (blk_cell BK486.out 1).trans rfl
            have hcz42_2 : wc.cell? ⟨gb486, 2, none⟩ = some (.int .i64 a0_2) := (blk_cell BK486.out 2).trans rfl
            have hcz42_3 : wc.cell? ⟨gb486, 3, none⟩ = some (.slice A0_3 l0_3.length c0_3) := (blk_cell BK486.out 3).trans rfl
            have hfz42_0 := blk_frozen BK486.out 0
            have hfz42_1 := blk_frozen BK486.out 1
            have hfz42_2 := blk_frozen BK486.out 2
            have hfz42_3 := blk_frozen BK486.out 3
            go_wp2_with (first | ((with_reducible refine gate_callee (f := 27) rfl ?_); refine goesL_ (some 27) rfl rfl Tryd.func27 (by kernel_rfl) rfl #[.agg #[.int .i64 a0_0, .string a0_1, .int .i64 a0_2, .slice A0_3 l0_3.length c0_3], .slice A1 l1.length c1] rfl (by (try simp only [List.map_toArray, List.map_cons, List.map_nil]); first | done | rfl | (simp only [List.length_drop, List.length_take]; rfl)) ?_; (with_reducible refine (position_Index.calls kj3 a0_0 a0_1 a0_2 _ _ l0_3 _ _ l1 t490 t491 _ ?side1 ?side2 ?side3 ?side4 A16.out).mono ?_); (case side1 => repeat (first | exact (Kd.C_below HR0_3.out HB.out) | (with_reducible refine Kd.C_alloc ?_ _) | (with_reducible refine Kd.C_drewN ?_ _) | (with_reducible refine Kd.C_drew ?_))); (case side2 => exact HC0_3.out); (case side3 => repeat (first | exact (Kd.C_below HR1.out HB.out) | (with_reducible refine Kd.C_alloc ?_ _) | (with_reducible refine Kd.C_drewN ?_ _) | (with_reducible refine Kd.C_drew ?_))); (case side4 => exact HC1.out); rintro e w43 ⟨rfl, hb⟩; refine ⟨_, rfl, ?_⟩; have n0_ := Aside0.mk (blk_below (g := gb486) (o := .cells #[.int .i64 a0_0, .string a0_1, .int .i64 a0_2, .slice A0_3 l0_3.length c0_3] 36 (0, 0)) (by (with_reducible repeat (first | refine blk_drewN ?_ _ | refine blk_drew ?_ | refine blk_alloc ?_ _)); exact BK486.out) hb); have n1_ := Aside0.mk (below_step (by repeat (first | (with_reducible first | exact HB.out | apply below_alloc | apply pw_below_drewN | apply below_drew1 | refine below_set ?_ GE486.out) | exact HB.out)) hb); clear BK486; clear HB; have BK486 := n0_; have HB := n1_; clear n0_ n1_; (try clear hb); (try clear hb2); (try clear hk); (try clear hi); have hcz44_0 : w43.cell? ⟨gb486, 0, none⟩ = some (.int .i64 a0_0) := (blk_cell BK486.out 0).trans rfl; have hcz44_1 : w43.cell? ⟨gb486, 1, none⟩ = some (.string a0_1) := (blk_cell BK486.out 1).trans rfl; have hcz44_2 : w43.cell? ⟨gb486, 2, none⟩ = some (.int .i64 a0_2) := (blk_cell BK486.out 2).trans rfl; have hcz44_3 : w43.cell? ⟨gb486, 3, none⟩ = some (.slice A0_3 l0_3.length c0_3) := (blk_cell BK486.out 3).trans rfl; have hfz44_0 := blk_frozen BK486.out 0; have hfz44_1 := blk_frozen BK486.out 1; have hfz44_2 := blk_frozen BK486.out 2; have hfz44_3 := blk_frozen BK486.out 3) | ((with_reducible refine gate_callee (f := 28) rfl ?_); refine goesL_ (some 33) rfl rfl Tryd.func28 (by kernel_rfl) rfl #[.agg #[.int .i64 a0_0, .string a0_1, .int .i64 a0_2, .slice A0_3 l0_3.length c0_3], .slice A1 l1.length c1] rfl (by (try simp only [List.map_toArray, List.map_cons, List.map_nil]); first | done | rfl | (simp only [List.length_drop, List.length_take]; rfl)) ?_; (with_reducible refine (vinculumref10_Index.calls kj3 a0_0 a0_1 a0_2 _ _ l0_3 _ _ l1 t492 t493 _ ?side1 ?side2 ?side3 ?side4 A17.out).mono ?_); (case side1 => repeat (first | exact (Kd.C_below HR0_3.out HB.out) | (with_reducible refine Kd.C_alloc ?_ _) | (with_reducible refine Kd.C_drewN ?_ _) | (with_reducible refine Kd.C_drew ?_))); (case side2 => exact HC0_3.out); (case side3 => repeat (first | exact (Kd.C_below HR1.out HB.out) | (with_reducible refine Kd.C_alloc ?_ _) | (with_reducible refine Kd.C_drewN ?_ _) | (with_reducible refine Kd.C_drew ?_))); (case side4 => exact HC1.out); rintro e w45 ⟨rfl, hb⟩; refine ⟨_, rfl, ?_⟩; have n0_ := Aside0.mk (blk_below (g := gb486) (o := .cells #[.int .i64 a0_0, .string a0_1, .int .i64 a0_2, .slice A0_3 l0_3.length c0_3] 36 (0, 0)) (by (with_reducible repeat (first | refine blk_drewN ?_ _ | refine blk_drew ?_ | refine blk_alloc ?_ _)); exact BK486.out) hb); have n1_ := Aside0.mk (below_step (by repeat (first | (with_reducible first | exact HB.out | apply below_alloc | apply pw_below_drewN | apply below_drew1 | refine below_set ?_ GE486.out) | exact HB.out)) hb); clear BK486; clear HB; have BK486 := n0_; have HB := n1_; clear n0_ n1_; (try clear hb); (try clear hb2); (try clear hk); (try clear hi); have hcz46_0 : w45.cell? ⟨gb486, 0, none⟩ = some (.int .i64 a0_0) := (blk_cell BK486.out 0).trans rfl; have hcz46_1 : w45.cell? ⟨gb486, 1, none⟩ = some (.string a0_1) := (blk_cell BK486.out 1).trans rfl; have hcz46_2 : w45.cell? ⟨gb486, 2, none⟩ = some (.int .i64 a0_2) := (blk_cell BK486.out 2).trans rfl; have hcz46_3 : w45.cell? ⟨gb486, 3, none⟩ = some (.slice A0_3 l0_3.length c0_3) := (blk_cell BK486.out 3).trans rfl; have hfz46_0 := blk_frozen BK486.out 0; have hfz46_1 := blk_frozen BK486.out 1; have hfz46_2 := blk_frozen BK486.out 2; have hfz46_3 := blk_frozen BK486.out 3) | ((with_reducible refine gate_callee (f := 29) rfl ?_); refine goesL_ (some 39) rfl rfl Tryd.func29 (by kernel_rfl) rfl #[.agg #[.int .i64 a0_0, .string a0_1, .int .i64 a0_2, .slice A0_3 l0_3.length c0_3], .int .i64 a2] rfl (by (try simp only [List.map_toArray, List.map_cons, List.map_nil]); first | done | rfl | (simp only [List.length_drop, List.length_take]; rfl)) ?_; (with_reducible refine (position_At.calls kj3 a0_0 a0_1 a0_2 _ _ l0_3 a2 t494 t497 _ ?side1 ?side2 A18.out).mono ?_); (case side1 => repeat (first | exact (Kd.C_below HR0_3.out HB.out) | (with_reducible refine Kd.C_alloc ?_ _) | (with_reducible refine Kd.C_drewN ?_ _) | (with_reducible refine Kd.C_drew ?_))); (case side2 => exact HC0_3.out); rintro e w47 ⟨v495, rfl, ho0, hb⟩; refine ⟨_, rfl, ?_⟩; have n0_ := Aside0.mk (Kd.V_lower (Kd.V_mono (ok' := fun k_ => k_ ≠ gb486) ho0 (fun k_ hk_ => (Kd.freshB (g := gb486) (o := .cells #[.int .i64 a0_0, .string a0_1, .int .i64 a0_2, .slice A0_3 l0_3.length c0_3] 36 (0, 0)) (by (with_reducible repeat (first | refine blk_drewN ?_ _ | refine blk_drew ?_ | refine blk_alloc ?_ _)); exact BK486.out) k_ hk_))) (below_size (by repeat (first | (with_reducible first | exact HB.out | apply below_alloc | apply pw_below_drewN | apply below_drew1 | refine below_set ?_ GE486.out) | exact HB.out)))); have n1_ := Aside0.mk (blk_below (g := gb486) (o := .cells #[.int .i64 a0_0, .string a0_1, .int .i64 a0_2, .slice A0_3 l0_3.length c0_3] 36 (0, 0)) (by (with_reducible repeat (first | refine blk_drewN ?_ _ | refine blk_drew ?_ | refine blk_alloc ?_ _)); exact BK486.out) hb); have n2_ := Aside0.mk (below_step (by repeat (first | (with_reducible first | exact HB.out | apply below_alloc | apply pw_below_drewN | apply below_drew1 | refine below_set ?_ GE486.out) | exact HB.out)) hb); clear BK486; clear HB; have HO496 := n0_; have BK486 := n1_; have HB := n2_; clear n0_ n1_ n2_; (try clear hb); (try clear hb2); (try clear hk); (try clear hi); (try clear ho0); have hcz48_0 : w47.cell? ⟨gb486, 0, none⟩ = some (.int .i64 a0_0) := (blk_cell BK486.out 0).trans rfl; have hcz48_1 : w47.cell? ⟨gb486, 1, none⟩ = some (.string a0_1) := (blk_cell BK486.out 1).trans rfl; have hcz48_2 : w47.cell? ⟨gb486, 2, none⟩ = some (.int .i64 a0_2) := (blk_cell BK486.out 2).trans rfl; have hcz48_3 : w47.cell? ⟨gb486, 3, none⟩ = some (.slice A0_3 l0_3.length c0_3) := (blk_cell BK486.out 3).trans rfl; have hfz48_0 := blk_frozen BK486.out 0; have hfz48_1 := blk_frozen BK486.out 1; have hfz48_2 := blk_frozen BK486.out 2; have hfz48_3 := blk_frozen BK486.out 3) | ((with_reducible refine gate_callee (f := 30) rfl ?_); refine goesL_ (some 45) rfl rfl Tryd.func30 (by kernel_rfl) rfl #[.agg #[.int .i64 a0_0, .string a0_1, .int .i64 a0_2, .slice A0_3 l0_3.length c0_3], .int .i64 a2] rfl (by (try simp only [List.map_toArray, List.map_cons, List.map_nil]); first | done | rfl | (simp only [List.length_drop, List.length_take]; rfl)) ?_; (with_reducible refine (vinculumref10_At.calls kj3 a0_0 a0_1 a0_2 _ _ l0_3 a2 t498 t501 _ ?side1 ?side2 A19.out).mono ?_); (case side1 => repeat (first | exact (Kd.C_below HR0_3.out HB.out) | (with_reducible refine Kd.C_alloc ?_ _) | (with_reducible refine Kd.C_drewN ?_ _) | (with_reducible refine Kd.C_drew ?_))); (case side2 => exact HC0_3.out); rintro e w49 ⟨v499, rfl, ho0, hb⟩; refine ⟨_, rfl, ?_⟩; have n0_ := Aside0.mk (Kd.V_below (by (with_reducible repeat (first | apply Kd.V_alloc | apply Kd.V_drewN | apply Kd.V_drew)); exact HO496.out) hb); have n1_ := Aside0.mk (Kd.V_lower (Kd.V_mono (ok' := fun k_ => k_ ≠ gb486) ho0 (fun k_ hk_ => (Kd.freshB (g := gb486) (o := .cells #[.int .i64 a0_0, .string a0_1, .int .i64 a0_2, .slice A0_3 l0_3.length c0_3] 36 (0, 0)) (by (with_reducible repeat (first | refine blk_drewN ?_ _ | refine blk_drew ?_ | refine blk_alloc ?_ _)); exact BK486.out) k_ hk_))) (below_size (by repeat (first | (with_reducible first | exact HB.out | apply below_alloc | apply pw_below_drewN | apply below_drew1 | refine below_set ?_ GE486.out) | exact HB.out)))); have n2_ := Aside0.mk (blk_below (g := gb486) (o := .cells #[.int .i64 a0_0, .string a0_1, .int .i64 a0_2, .slice A0_3 l0_3.length c0_3] 36 (0, 0)) (by (with_reducible repeat (first | refine blk_drewN ?_ _ | refine blk_drew ?_ | refine blk_alloc ?_ _)); exact BK486.out) hb); have n3_ := Aside0.mk (below_step (by repeat (first | (with_reducible first | exact HB.out | apply below_alloc | apply pw_below_drewN | apply below_drew1 | refine below_set ?_ GE486.out) | exact HB.out)) hb); clear HO496; clear BK486; clear HB; have HO496 := n0_; have HO500 := n1_; have BK486 := n2_; have HB := n3_; clear n0_ n1_ n2_ n3_; (try clear hb); (try clear hb2); (try clear hk); (try clear hi); (try clear ho0)))
            go_ret
            exact ⟨by first | rfl | (simp [errW_none, errW_some] <;> rfl) | (simp [*, errW_none, errW_some] <;> rfl), by repeat (first | (with_reducible first | exact HB.out | apply below_alloc | apply pw_below_drewN | apply below_drew1 | refine below_set ?_ GE486.out) | exact HB.out)⟩
        · rw [if_neg c20] at H
          have c20b0 : (t491 == t493) = false := beq_eq_false_iff_ne.mpr c20
          have c20b1 : (t491 != t493) = true := bne_iff_ne.mpr c20
          obtain rfl := Option.some.inj H
          have hcz50_0 : wc.cell? ⟨gb486, 0, none⟩ = some (.int .i64 a0_0) := (blk_cell BK486.out 0).trans rfl
          have hcz50_1 : wc.cell? ⟨gb486, 1, none⟩ = some (.string a0_1) := (blk_cell BK486.out 1).trans rfl
          have hcz50_2 : wc.cell? ⟨gb486, 2, none⟩ = some (.int .i64 a0_2) := (blk_cell BK486.out 2).trans rfl
          have hcz50_3 : wc.cell? ⟨gb486, 3, none⟩ = some (.slice A0_3 l0_3.length c0_3) := (blk_cell BK486.out 3).trans rfl
          have hfz50_0 := blk_frozen BK486.out 0
          have hfz50_1 := blk_frozen BK486.out 1
          have hfz50_2 := blk_frozen BK486.out 2
          have hfz50_3 := blk_frozen BK486.out 3
          go_wp2_with (first | ((with_reducible refine gate_callee (f := 27) rfl ?_); refine goesL_ (some 27) rfl rfl Tryd.func27 (by kernel_rfl) rfl #[.agg #[.int .i64 a0_0, .string a0_1, .int .i64 a0_2, .slice A0_3 l0_3.length c0_3], .slice A1 l1.length c1] rfl (by (try simp only [List.map_toArray, List.map_cons, List.map_nil]); first | done | rfl | (simp only [List.length_drop, List.length_take]; rfl)) ?_; (with_reducible refine (position_Index.calls kj3 a0_0 a0_1 a0_2 _ _ l0_3 _ _ l1 t490 t491 _ ?side1 ?side2 ?side3 ?side4 A16.out).mono ?_); (case side1 => repeat (first | exact (Kd.C_below HR0_3.out HB.out) | (with_reducible refine Kd.C_alloc ?_ _) | (with_reducible refine Kd.C_drewN ?_ _) | (with_reducible refine Kd.C_drew ?_))); (case side2 => exact HC0_3.out); (case side3 => repeat (first | exact (Kd.C_below HR1.out HB.out) | (with_reducible refine Kd.C_alloc ?_ _) | (with_reducible refine Kd.C_drewN ?_ _) | (with_reducible refine Kd.C_drew ?_))); (case side4 => exact HC1.out); rintro e w51 ⟨rfl, hb⟩; refine ⟨_, rfl, ?_⟩; have n0_ := Aside0.mk (blk_below (g := gb486) (o := .cells #[.int .i64 a0_0, .string a0_1, .int .i64 a0_2, .slice A0_3 l0_3.length c0_3] 36 (0, 0)) (by (with_reducible repeat (first | refine blk_drewN ?_ _ | refine blk_drew ?_ | refine blk_alloc ?_ _)); exact BK486.out) hb); have n1_ := Aside0.mk (below_step (by repeat (first | (with_reducible first | exact HB.out | apply below_alloc | apply pw_below_drewN | apply below_drew1 | refine below_set ?_ GE486.out) | exact HB.out)) hb); clear BK486; clear HB; have BK486 := n0_; have HB := n1_; clear n0_ n1_; (try clear hb); (try clear hb2); (try clear hk); (try clear hi); have hcz52_0 : w51.cell? ⟨gb486, 0, none⟩ = some (.int .i64 a0_0) := (blk_cell BK486.out 0).trans rfl; have hcz52_1 : w51.cell? ⟨gb486, 1, none⟩ = some (.string a0_1) := (blk_cell BK486.out 1).trans rfl; have hcz52_2 : w51.cell? ⟨gb486, 2, none⟩ = some (.int .i64 a0_2) := (blk_cell BK486.out 2).trans rfl; have hcz52_3 : w51.cell? ⟨gb486, 3, none⟩ = some (.slice A0_3 l0_3.length c0_3) := (blk_cell BK486.out 3).trans rfl; have hfz52_0 := blk_frozen BK486.out 0; have hfz52_1 := blk_frozen BK486.out 1; have hfz52_2 := blk_frozen BK486.out 2; have hfz52_3 := blk_frozen BK486.out 3) | ((with_reducible refine gate_callee (f := 28) rfl ?_); refine goesL_ (some 33) rfl rfl Tryd.func28 (by kernel_rfl) rfl #[.agg #[.int .i64 a0_0, .string a0_1, .int .i64 a0_2, .slice A0_3 l0_3.length c0_3], .slice A1 l1.length c1] rfl (by (try simp only [List.map_toArray, List.map_cons, List.map_nil]); first | done | rfl | (simp only [List.length_drop, List.length_take]; rfl)) ?_; (with_reducible refine (vinculumref10_Index.calls kj3 a0_0 a0_1 a0_2 _ _ l0_3 _ _ l1 t492 t493 _ ?side1 ?side2 ?side3 ?side4 A17.out).mono ?_); (case side1 => repeat (first | exact (Kd.C_below HR0_3.out HB.out) | (with_reducible refine Kd.C_alloc ?_ _) | (with_reducible refine Kd.C_drewN ?_ _) | (with_reducible refine Kd.C_drew ?_))); (case side2 => exact HC0_3.out); (case side3 => repeat (first | exact (Kd.C_below HR1.out HB.out) | (with_reducible refine Kd.C_alloc ?_ _) | (with_reducible refine Kd.C_drewN ?_ _) | (with_reducible refine Kd.C_drew ?_))); (case side4 => exact HC1.out); rintro e w53 ⟨rfl, hb⟩; refine ⟨_, rfl, ?_⟩; have n0_ := Aside0.mk (blk_below (g := gb486) (o := .cells #[.int .i64 a0_0, .string a0_1, .int .i64 a0_2, .slice A0_3 l0_3.length c0_3] 36 (0, 0)) (by (with_reducible repeat (first | refine blk_drewN ?_ _ | refine blk_drew ?_ | refine blk_alloc ?_ _)); exact BK486.out) hb); have n1_ := Aside0.mk (below_step (by repeat (first | (with_reducible first | exact HB.out | apply below_alloc | apply pw_below_drewN | apply below_drew1 | refine below_set ?_ GE486.out) | exact HB.out)) hb); clear BK486; clear HB; have BK486 := n0_; have HB := n1_; clear n0_ n1_; (try clear hb); (try clear hb2); (try clear hk); (try clear hi); have hcz54_0 : w53.cell? ⟨gb486, 0, none⟩ = some (.int .i64 a0_0) := (blk_cell BK486.out 0).trans rfl; have hcz54_1 : w53.cell? ⟨gb486, 1, none⟩ = some (.string a0_1) := (blk_cell BK486.out 1).trans rfl; have hcz54_2 : w53.cell? ⟨gb486, 2, none⟩ = some (.int .i64 a0_2) := (blk_cell BK486.out 2).trans rfl; have hcz54_3 : w53.cell? ⟨gb486, 3, none⟩ = some (.slice A0_3 l0_3.length c0_3) := (blk_cell BK486.out 3).trans rfl; have hfz54_0 := blk_frozen BK486.out 0; have hfz54_1 := blk_frozen BK486.out 1; have hfz54_2 := blk_frozen BK486.out 2; have hfz54_3 := blk_frozen BK486.out 3) | ((with_reducible refine gate_callee (f := 29) rfl ?_); refine goesL_ (some 39) rfl rfl Tryd.func29 (by kernel_rfl) rfl #[.agg #[.int .i64 a0_0, .string a0_1, .int .i64 a0_2, .slice A0_3 l0_3.length c0_3], .int .i64 a2] rfl (by (try simp only [List.map_toArray, List.map_cons, List.map_nil]); first | done | rfl | (simp only [List.length_drop, List.length_take]; rfl)) ?_; (with_reducible refine (position_At.calls kj3 a0_0 a0_1 a0_2 _ _ l0_3 a2 t494 t497 _ ?side1 ?side2 A18.out).mono ?_); (case side1 => repeat (first | exact (Kd.C_below HR0_3.out HB.out) | (with_reducible refine Kd.C_alloc ?_ _) | (with_reducible refine Kd.C_drewN ?_ _) | (with_reducible refine Kd.C_drew ?_))); (case side2 => exact HC0_3.out); rintro e w55 ⟨v495, rfl, ho0, hb⟩; refine ⟨_, rfl, ?_⟩; have n0_ := Aside0.mk (Kd.V_lower (Kd.V_mono (ok' := fun k_ => k_ ≠ gb486) ho0 (fun k_ hk_ => (Kd.freshB (g := gb486) (o := .cells #[.int .i64 a0_0, .string a0_1, .int .i64 a0_2, .slice A0_3 l0_3.length c0_3] 36 (0, 0)) (by (with_reducible repeat (first | refine blk_drewN ?_ _ | refine blk_drew ?_ | refine blk_alloc ?_ _)); exact BK486.out) k_ hk_))) (below_size (by repeat (first | (with_reducible first | exact HB.out | apply below_alloc | apply pw_below_drewN | apply below_drew1 | refine below_set ?_ GE486.out) | exact HB.out)))); have n1_ := Aside0.mk (blk_below (g := gb486) (o := .cells #[.int .i64 a0_0, .string a0_1, .int .i64 a0_2, .slice A0_3 l0_3.length c0_3] 36 (0, 0)) (by (with_reducible repeat (first | refine blk_drewN ?_ _ | refine blk_drew ?_ | refine blk_alloc ?_ _)); exact BK486.out) hb); have n2_ := Aside0.mk (below_step (by repeat (first | (with_reducible first | exact HB.out | apply below_alloc | apply pw_below_drewN | apply below_drew1 | refine below_set ?_ GE486.out) | exact HB.out)) hb); clear BK486; clear HB; have HO496 := n0_; have BK486 := n1_; have HB := n2_; clear n0_ n1_ n2_; (try clear hb); (try clear hb2); (try clear hk); (try clear hi); (try clear ho0); have hcz56_0 : w55.cell? ⟨gb486, 0, none⟩ = some (.int .i64 a0_0) := (blk_cell BK486.out 0).trans rfl; have hcz56_1 : w55.cell? ⟨gb486, 1, none⟩ = some (.string a0_1) := (blk_cell BK486.out 1).trans rfl; have hcz56_2 : w55.cell? ⟨gb486, 2, none⟩ = some (.int .i64 a0_2) := (blk_cell BK486.out 2).trans rfl; have hcz56_3 : w55.cell? ⟨gb486, 3, none⟩ = some (.slice A0_3 l0_3.length c0_3) := (blk_cell BK486.out 3).trans rfl; have hfz56_0 := blk_frozen BK486.out 0; have hfz56_1 := blk_frozen BK486.out 1; have hfz56_2 := blk_frozen BK486.out 2; have hfz56_3 := blk_frozen BK486.out 3) | ((with_reducible refine gate_callee (f := 30) rfl ?_); refine goesL_ (some 45) rfl rfl Tryd.func30 (by kernel_rfl) rfl #[.agg #[.int .i64 a0_0, .string a0_1, .int .i64 a0_2, .slice A0_3 l0_3.length c0_3], .int .i64 a2] rfl (by (try simp only [List.map_toArray, List.map_cons, List.map_nil]); first | done | rfl | (simp only [List.length_drop, List.length_take]; rfl)) ?_; (with_reducible refine (vinculumref10_At.calls kj3 a0_0 a0_1 a0_2 _ _ l0_3 a2 t498 t501 _ ?side1 ?side2 A19.out).mono ?_); (case side1 => repeat (first | exact (Kd.C_below HR0_3.out HB.out) | (with_reducible refine Kd.C_alloc ?_ _) | (with_reducible refine Kd.C_drewN ?_ _) | (with_reducible refine Kd.C_drew ?_))); (case side2 => exact HC0_3.out); rintro e w57 ⟨v499, rfl, ho0, hb⟩; refine ⟨_, rfl, ?_⟩; have n0_ := Aside0.mk (Kd.V_below (by (with_reducible repeat (first | apply Kd.V_alloc | apply Kd.V_drewN | apply Kd.V_drew)); exact HO496.out) hb); have n1_ := Aside0.mk (Kd.V_lower (Kd.V_mono (ok' := fun k_ => k_ ≠ gb486) ho0 (fun k_ hk_ => (Kd.freshB (g := gb486) (o := .cells #[.int .i64 a0_0, .string a0_1, .int .i64 a0_2, .slice A0_3 l0_3.length c0_3] 36 (0, 0)) (by (with_reducible repeat (first | refine blk_drewN ?_ _ | refine blk_drew ?_ | refine blk_alloc ?_ _)); exact BK486.out) k_ hk_))) (below_size (by repeat (first | (with_reducible first | exact HB.out | apply below_alloc | apply pw_below_drewN | apply below_drew1 | refine below_set ?_ GE486.out) | exact HB.out)))); have n2_ := Aside0.mk (blk_below (g := gb486) (o := .cells #[.int .i64 a0_0, .string a0_1, .int .i64 a0_2, .slice A0_3 l0_3.length c0_3] 36 (0, 0)) (by (with_reducible repeat (first | refine blk_drewN ?_ _ | refine blk_drew ?_ | refine blk_alloc ?_ _)); exact BK486.out) hb); have n3_ := Aside0.mk (below_step (by repeat (first | (with_reducible first | exact HB.out | apply below_alloc | apply pw_below_drewN | apply below_drew1 | refine below_set ?_ GE486.out) | exact HB.out)) hb); clear HO496; clear BK486; clear HB; have HO496 := n0_; have HO500 := n1_; have BK486 := n2_; have HB := n3_; clear n0_ n1_ n2_ n3_; (try clear hb); (try clear hb2); (try clear hk); (try clear hi); (try clear ho0)))
          go_ret
          exact ⟨by first | rfl | (simp [errW_none, errW_some] <;> rfl) | (simp [*, errW_none, errW_some] <;> rfl), by repeat (first | (with_reducible first | exact HB.out | apply below_alloc | apply pw_below_drewN | apply below_drew1 | refine below_set ?_ GE486.out) | exact HB.out)⟩
end Go.Proofs.YtagkhoeidjlahaaDoor.G
namespace Go.Proofs.YtagkhoeidjlahaaDoor.G.Pure
open Go.Proofs.YtagkhoeidjlahaaDoorW.PrintWords Go.RowKit
set_option linter.unusedVariables false
set_option linter.unusedSimpArgs false
theorem PositionIndex (x : S36) (l : List Int) (i : Int) (hx : OkNode x) (hl : OkL (OkI .i64) l) (hi : OkI .i64 i) : ∃ k, vinculumlaw10_PositionIndex.f k x.f0 x.f1 x.f2 x.f3 l i = some true := by
  apply Ev.rounds
  unfold vinculumlaw10_PositionIndex.f
  refine guard10 (α := Unit) x hx l (g := fun k b => vinculumlaw10_PositionIndex.j0 k l i b x.f0 x.f1 x.f2 x.f3) ?_ ?_
  · refine Ev.step (fun k => by rw [vinculumlaw10_PositionIndex.j0]) ?_
    exact ev_if (fun _ => aw (α := Unit)) fun h => absurd rfl h
  · intro h1 h2
    refine Ev.step (fun k => by rw [vinculumlaw10_PositionIndex.j0]) ?_
    refine ev_if (fun h => by cases h) fun _ => ?_
    refine ev_bind (pIndex_ev x hx (by omega) l) ?_
    refine ev_bind (rIndex_ev x hx (by omega) l) ?_
    refine ev_bind (pAt_ev x hx i) ?_
    refine ev_bind (rAt_ev x hx (by omega) i) ?_
    refine ev_if (fun _ => ?_) fun h => absurd rfl h
    refine ev_if (fun _ => ?_) fun h => absurd rfl h
    refine ev_if (fun _ => ?_) fun h => absurd rfl h
    exact ev_bind (same_self _ (at_short x (by omega) i)) (Ev.now _)
end Go.Proofs.YtagkhoeidjlahaaDoor.G.Pure
namespace Go.Proofs.YtagkhoeidjlahaaDoor.positionIndex
open Go.ChangeShapes Go.WideShapes Go.ChangeAt Go.RowKit G
set_option linter.unusedVariables false
theorem own : ownKnob Tryd.prog.godebug = none := by kernel_rfl
theorem laidOut : laidOutB Tryd.prog = true := by kernel_rfl
set_option maxRecDepth 100000 in
theorem lifted (os : Os) (started : os.Started) (H : Type) (enc : TypeId × Value → H) :
    ReturnsInHanded {} Tryd.checked os 6 .any (fun w args => (Rows.positionIndexSpec.pre enc Tryd.prog Tryd.f6 Rows.positionIndexRow.domain false w args ∧ laidMetH Tryd.prog Rows.positionIndexRow.laid w) ∧ sizedMet enc Tryd.prog Tryd.f6 (OpenSpec.ofChange Rows.positionIndexSpec) false w args)
      (Rows.positionIndexSpec.post enc Tryd.prog Tryd.f6 false true false false) := by
  refine returnsInHanded_of_change_and (C := Tryd.checked) (X := fun w _ => laidMetH Tryd.prog Rows.positionIndexRow.laid w) (fun _ _ _ hh h => h.of_heap hh) own started (by kernel_rfl) Tryd.func6
    (ChangeSpec.witness_shaped (enc := enc) (C := Tryd.checked) (os := os) (X := fun w _ => laidMetH Tryd.prog Rows.positionIndexRow.laid w) false (World.laidAll Tryd.prog os Rows.positionIndexRow.laid) #[.agg #[.int .i64 0, .string ⟨#[]⟩, .int .i64 0, .slice none 0 0], .slice none 0 0, .int .i64 0] 8 (World.laidAll_os _ _ _)
      (World.shaped_of_ZipB (by kernel_rfl) (by kernel_rfl)) (by kernel_rfl) (by kernel_rfl) (by kernel_rfl)
      (by rw [MakeChecks.laidMetH_plain _ _ _ (by kernel_rfl)]; exact laidMet_laidAll _ (by kernel_rfl) (by kernel_rfl))) ?_
  intro W base args ds gs before hval0 hW hc _ hL _
  have hval : ∀ (j : Nat) t v, Tryd.f6.params[j]? = some t → args[j]? = some v → Value.okWide Tryd.prog W .any base t v := hval0
  have hW' := hW
  obtain ⟨p, q, hA0, hV, rfl, _, _⟩ := hW
  have hA : DataW.TrodAll enc Tryd.prog W 0 (fun _ => true) true Tryd.f6.params.toList args.toList ds p := hA0
  rw [Tryd.params6] at hA hval
  obtain ⟨v0, vs0, d0, ds0, p0, q0, hargs, rfl, rfl, h0, r0⟩ := trodAll_cons hA
  obtain ⟨v1, vs1, d1, ds1, p1, q1, rfl, rfl, rfl, h1, r1⟩ := trodAll_cons r0
  obtain ⟨v2, vs2, d2, ds2, p2, q2, rfl, rfl, rfl, h2, r2⟩ := trodAll_cons r1
  obtain ⟨rfl, rfl, rfl⟩ := trodAll_nil r2
  obtain rfl : args = #[v0, v1, v2] := by cases args; simp_all
  obtain ⟨rfl, rfl⟩ := trodVars_none hV
  have k0 := h0
  have lt0 : ∀ x ∈ p0, x.block < W.heap.size := by obtain ⟨m, hm⟩ := k0; exact DataW.trod_lt m _ _ _ hm
  obtain ⟨x0, A0, c0, rfl, le0, C0, o0⟩ := node_arg (hval 0 36 v0 rfl rfl) h0
  have k1 := h1
  have lt1 : ∀ x ∈ p1, x.block < W.heap.size := by obtain ⟨m, hm⟩ := k1; exact DataW.trod_lt m _ _ _ hm
  obtain ⟨x1, A1, c1, rfl, le1, C1, o1⟩ := ints_arg (hval 1 26 v1 rfl rfl) h1
  have k2 := h2
  have lt2 : ∀ x ∈ p2, x.block < W.heap.size := by obtain ⟨m, hm⟩ := k2; exact DataW.trod_lt m _ _ _ hm
  obtain ⟨x2, rfl, rfl, rfl, o2⟩ := open_int (show Tryd.prog.underlying 3 = some (.int .i64) from by kernel_rfl) (hval 2 3 v2 rfl rfl) h2
  clear hA0 hval0
  obtain ⟨k, hk⟩ := G.Pure.PositionIndex x0 x1 x2 o0 o1 o2
  refine (vinculumlaw10_PositionIndex.calls k x0.f0 x0.f1 x0.f2 A0 c0 x0.f3 A1 c1 x1 x2 true W C0 le0 C1 le1 hk).mono fun e W' ⟨he, bel⟩ => ?_
  subst he
  exact ⟨_, rfl, _, _, _, [], _, [], hW', trodAll_mk1 (shut_bool Tryd.underlying4 _), (trodAll_cons_mk (Below.trod laidOut (by kernel_rfl) (of_decide_eq_true (by kernel_rfl)) k0 bel lt0) (trodAll_cons_mk (Below.trod laidOut (by kernel_rfl) (of_decide_eq_true (by kernel_rfl)) k1 bel lt1) (trodAll_cons_mk (Below.trod laidOut (by kernel_rfl) (of_decide_eq_true (by kernel_rfl)) k2 bel lt2) trodAll_mk0))), rfl, bel.frame _, fun h => by cases h⟩
theorem holds : Rows.PositionIndexSaid :=
  OpenClaim.holds_of_wide 6 Tryd.f6 rfl rfl rfl rfl rfl rfl rfl ⟨rfl, rfl, rfl, rfl, rfl⟩ rfl rfl rfl rfl rfl (by kernel_rfl) Tryd.func6 (by kernel_rfl)
    (of_decide_eq_true (by kernel_rfl)) (by unfold Func.isWrapper; first | (rw [if_pos (by decide +kernel)]; kernel_rfl) | (rw [if_neg (by decide +kernel)]; exact ⟨rfl, rfl⟩))
    (fun os started H enc _ => lifted os started H enc)
theorem card : Rows.PositionIndexCardSaid :=
  Claim7.holds_tied_plain_at .later [] [.data, .pinned] true (true, "c39d0df16196e9f8f3819fe85171d6b94f20910c6b42b30e9fe380aa6e06d008") false holds (fun _ h => by cases h) (by kernel_rfl) (fun _ h => by cases h) positionIndex_row_tie rfl ⟨rfl, rfl⟩ (by kernel_rfl) rfl
    (fun f fn hf hfn => by
      obtain rfl : f = 6 := Option.some.inj ((show Tryd.prog.funcNamed "vinculum/vinculumlaw10.PositionIndex" = some 6 by kernel_rfl).symm.trans hf) |>.symm
      obtain rfl : fn = Tryd.f6 := (Option.some.inj (Tryd.func6.symm.trans hfn)).symm
      exact ⟨by kernel_rfl, fun j t ht => by
        rw [Tryd.params6] at ht
        have hm : t ∈ [36, 26, 3] := by simpa using Array.mem_of_getElem? ht
        have hall : ([36, 26, 3].all fun u => !Tryd.prog.wantsStandIn u) = true := by kernel_rfl
        exact (show Tryd.prog.wantsStandIn t = false by simpa using List.all_eq_true.1 hall t hm)⟩)
    (by kernel_rfl)
end Go.Proofs.YtagkhoeidjlahaaDoor.positionIndex
namespace Go.Proofs.YtagkhoeidjlahaaDoor
theorem positionIndex_card : Rows.PositionIndexCardSaid := positionIndex.card
#print axioms positionIndex_card
end Go.Proofs.YtagkhoeidjlahaaDoor
