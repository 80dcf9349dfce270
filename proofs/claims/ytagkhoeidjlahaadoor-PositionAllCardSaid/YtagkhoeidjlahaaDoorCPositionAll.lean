-- Written by pack.py, a program of this session: this session's texts and those that the kit's printer wrote for this claim, pruned to what the claim uses.
import Derived.Test.YtagkhoeidjlahaaDoorCPositionAll6
import Derived.Test.YtagkhoeidjlahaaDoorRows
import Derived.Test.YtagkhoeidjlahaaDoorTie
import Derived.Test.YtagkhoeidjlahaaDoorCards
import Derived.WalkKit
import Derived.ProofKit
import Derived.OpenShut
import Derived.ShutString
import Derived.ChangeOld
import Derived.Below
import Derived.SizedLaws
import Derived.LaidMore
import Derived.Lay
import Derived.SevenTiedAt
import Derived.Stop.Joined
namespace Go.Proofs.YtagkhoeidjlahaaDoor.G
open Go.RowKit Go.Proofs.YtagkhoeidjlahaaDoorW.PrintWords Go.Proofs.YtagkhoeidjlahaaDoorW.PrintLast Go.Proofs.YtagkhoeidjlahaaDoorW.PrintMore
attribute [local go_sem] max2_int min2_int max_two min_two max_three min_three max_four min_four
set_option linter.unusedVariables false
set_option linter.unusedSimpArgs false
mutual
def vinculumlaw10_PositionAll.j0 : Nat → Bool → Int → ByteArray → Int → List (S36) → Option (Bool)
  | 0, _, _, _, _, _ => none
  | k + 1, x18, x562000, x562001, x562002, x562003 => if x18 = true then ((vinculumlaw10_awake.f k).bind fun t564 => (some t564)) else ((position_All.f k x562000 x562001 x562002 x562003).bind fun bt565 => ((vinculumref10_All.f k x562000 x562001 x562002 x562003).bind fun bt569 => ((position_First.f k x562000 x562001 x562002 x562003).bind fun bt573 => ((position_Last.f k x562000 x562001 x562002 x562003).bind fun bt577 => (if bt565.2 = bt569.2 then (if bt573.2 = bt569.2 then (if bt577.2 = bt569.2 then (vinculumlaw10_PositionAll.j1 k bt565.1 bt569.1 bt569.2 bt573.1 bt577.1 ((bt565.1.length : Int) != (bt569.1.length : Int))) else (vinculumlaw10_PositionAll.j1 k bt565.1 bt569.1 bt569.2 bt573.1 bt577.1 true)) else (vinculumlaw10_PositionAll.j1 k bt565.1 bt569.1 bt569.2 bt573.1 bt577.1 true)) else (vinculumlaw10_PositionAll.j1 k bt565.1 bt569.1 bt569.2 bt573.1 bt577.1 true))))))
def vinculumlaw10_PositionAll.j1 : Nat → List (List Int) → List (List Int) → Int → List Int → List Int → Bool → Option (Bool)
  | 0, _, _, _, _, _, _ => none
  | k + 1, x3, x5, x6, x7, x9, x59 => if x59 = true then (some false) else (vinculumlaw10_PositionAll.l0 k x3 x5 x6 x7 x9 (x5.length : Int) 0)
def vinculumlaw10_PositionAll.l0 : Nat → List (List Int) → List (List Int) → Int → List Int → List Int → Int → Int → Option (Bool)
  | 0, _, _, _, _, _, _, _ => none
  | k + 1, x3, x5, x6, x7, x9, x61, x62 => if x62 < x61 then (if 0 ≤ x62 then (if x62 < (x3.length : Int) then (if x62 < (x5.length : Int) then ((vinculumref10_Same.f k (rd_L5 x3 x62) (rd_L5 x5 x62)).bind fun t583 => (if t583 = true then (vinculumlaw10_PositionAll.l0 k x3 x5 x6 x7 x9 x61 (wrap64 (x62 + 1))) else (some false))) else (none)) else (none)) else (none)) else (if x6 = 0 then (if 0 < (x5.length : Int) then ((vinculumref10_Same.f k x7 (rd_L5 x5 0)).bind fun t585 => (if t585 = true then (if 0 ≤ (wrap64 ((x5.length : Int) - 1)) then (if (wrap64 ((x5.length : Int) - 1)) < (x5.length : Int) then ((vinculumref10_Same.f k x9 (rd_L5 x5 (wrap64 ((x5.length : Int) - 1)))).bind fun t587 => (some t587)) else (none)) else (none)) else (some false))) else (none)) else (if (x7.length : Int) = 0 then (if (x9.length : Int) = 0 then (some true) else (some false)) else (some false)))
end
def vinculumlaw10_PositionAll.f (k : Nat) (a0_0 : Int) (a0_1 : ByteArray) (a0_2 : Int) (l0_3 : List (S36)) : Option (Bool) := (vinculumlaw10_awake.f k).bind fun t562 => (if t562 = true then ((vinculumlaw10_few.f k a0_0 a0_1 a0_2 l0_3 ([] : List Int)).bind fun t563 => (vinculumlaw10_PositionAll.j0 k (!t563) a0_0 a0_1 a0_2 l0_3)) else (vinculumlaw10_PositionAll.j0 k true a0_0 a0_1 a0_2 l0_3))
theorem vinculumlaw10_PositionAll.mono_l : ∀ k, (∀ y0 y1 y2 y3 y4, LeO (vinculumlaw10_PositionAll.j0 k y0 y1 y2 y3 y4) (vinculumlaw10_PositionAll.j0 (k + 1) y0 y1 y2 y3 y4)) ∧ (∀ y0 y1 y2 y3 y4 y5, LeO (vinculumlaw10_PositionAll.j1 k y0 y1 y2 y3 y4 y5) (vinculumlaw10_PositionAll.j1 (k + 1) y0 y1 y2 y3 y4 y5)) ∧ (∀ y0 y1 y2 y3 y4 y5 y6, LeO (vinculumlaw10_PositionAll.l0 k y0 y1 y2 y3 y4 y5 y6) (vinculumlaw10_PositionAll.l0 (k + 1) y0 y1 y2 y3 y4 y5 y6))
  | 0 => ⟨fun _ _ _ _ _ r h => by simp [vinculumlaw10_PositionAll.j0] at h, fun _ _ _ _ _ _ r h => by simp [vinculumlaw10_PositionAll.j1] at h, fun _ _ _ _ _ _ _ r h => by simp [vinculumlaw10_PositionAll.l0] at h⟩
  | k + 1 => by
    obtain ⟨ih0, ih1, ih2⟩ := vinculumlaw10_PositionAll.mono_l k
    refine ⟨?_, ?_, ?_⟩
    · intro y0 y1 y2 y3 y4
      unfold vinculumlaw10_PositionAll.j0
      repeat' first
      | (with_reducible exact ih0 _ _ _ _ _)
      | (with_reducible exact ih1 _ _ _ _ _ _)
      | (with_reducible exact ih2 _ _ _ _ _ _ _)
      | (with_reducible exact position_All.mono _ _ _ _ _)
      | (with_reducible exact position_First.mono _ _ _ _ _)
      | (with_reducible exact position_Last.mono _ _ _ _ _)
      | (with_reducible exact vinculumlaw10_awake.mono _)
      | (with_reducible exact vinculumlaw10_few.mono _ _ _ _ _ _)
      | (with_reducible exact vinculumref10_All.mono _ _ _ _ _)
      | (with_reducible exact vinculumref10_Same.mono _ _ _)
      | (with_reducible exact LeO.refl _)
      | (with_reducible exact LeO.none _)
      | (with_reducible refine LeO.ite ?_ ?_)
      | (with_reducible refine LeO.bind ?_ (fun _ => ?_))
      | exact ih0 _ _ _ _ _
      | exact ih1 _ _ _ _ _ _
      | exact ih2 _ _ _ _ _ _ _
      | exact position_All.mono _ _ _ _ _
      | exact position_First.mono _ _ _ _ _
      | exact position_Last.mono _ _ _ _ _
      | exact vinculumlaw10_awake.mono _
      | exact vinculumlaw10_few.mono _ _ _ _ _ _
      | exact vinculumref10_All.mono _ _ _ _ _
      | exact vinculumref10_Same.mono _ _ _
      | exact LeO.none _
      | refine LeO.ite ?_ ?_
      | refine LeO.bind ?_ (fun _ => ?_)
    · intro y0 y1 y2 y3 y4 y5
      unfold vinculumlaw10_PositionAll.j1
      repeat' first
      | (with_reducible exact ih0 _ _ _ _ _)
      | (with_reducible exact ih1 _ _ _ _ _ _)
      | (with_reducible exact ih2 _ _ _ _ _ _ _)
      | (with_reducible exact position_All.mono _ _ _ _ _)
      | (with_reducible exact position_First.mono _ _ _ _ _)
      | (with_reducible exact position_Last.mono _ _ _ _ _)
      | (with_reducible exact vinculumlaw10_awake.mono _)
      | (with_reducible exact vinculumlaw10_few.mono _ _ _ _ _ _)
      | (with_reducible exact vinculumref10_All.mono _ _ _ _ _)
      | (with_reducible exact vinculumref10_Same.mono _ _ _)
      | (with_reducible exact LeO.refl _)
      | (with_reducible exact LeO.none _)
      | (with_reducible refine LeO.ite ?_ ?_)
      | (with_reducible refine LeO.bind ?_ (fun _ => ?_))
      | exact ih0 _ _ _ _ _
      | exact ih1 _ _ _ _ _ _
      | exact ih2 _ _ _ _ _ _ _
      | exact position_All.mono _ _ _ _ _
      | exact position_First.mono _ _ _ _ _
      | exact position_Last.mono _ _ _ _ _
      | exact vinculumlaw10_awake.mono _
      | exact vinculumlaw10_few.mono _ _ _ _ _ _
      | exact vinculumref10_All.mono _ _ _ _ _
      | exact vinculumref10_Same.mono _ _ _
      | exact LeO.none _
      | refine LeO.ite ?_ ?_
      | refine LeO.bind ?_ (fun _ => ?_)
    · intro y0 y1 y2 y3 y4 y5 y6
      unfold vinculumlaw10_PositionAll.l0
      repeat' first
      | (with_reducible exact ih0 _ _ _ _ _)
      | (with_reducible exact ih1 _ _ _ _ _ _)
      | (with_reducible exact ih2 _ _ _ _ _ _ _)
      | (with_reducible exact position_All.mono _ _ _ _ _)
      | (with_reducible exact position_First.mono _ _ _ _ _)
      | (with_reducible exact position_Last.mono _ _ _ _ _)
      | (with_reducible exact vinculumlaw10_awake.mono _)
      | (with_reducible exact vinculumlaw10_few.mono _ _ _ _ _ _)
      | (with_reducible exact vinculumref10_All.mono _ _ _ _ _)
      | (with_reducible exact vinculumref10_Same.mono _ _ _)
      | (with_reducible exact LeO.refl _)
      | (with_reducible exact LeO.none _)
      | (with_reducible refine LeO.ite ?_ ?_)
      | (with_reducible refine LeO.bind ?_ (fun _ => ?_))
      | exact ih0 _ _ _ _ _
      | exact ih1 _ _ _ _ _ _
      | exact ih2 _ _ _ _ _ _ _
      | exact position_All.mono _ _ _ _ _
      | exact position_First.mono _ _ _ _ _
      | exact position_Last.mono _ _ _ _ _
      | exact vinculumlaw10_awake.mono _
      | exact vinculumlaw10_few.mono _ _ _ _ _ _
      | exact vinculumref10_All.mono _ _ _ _ _
      | exact vinculumref10_Same.mono _ _ _
      | exact LeO.none _
      | refine LeO.ite ?_ ?_
      | refine LeO.bind ?_ (fun _ => ?_)
theorem vinculumlaw10_PositionAll.mono : ∀ a0 a1 a2 a3 k, LeO (vinculumlaw10_PositionAll.f k a0 a1 a2 a3) (vinculumlaw10_PositionAll.f (k + 1) a0 a1 a2 a3) := by
  intro a0 a1 a2 a3 k
  obtain ⟨ih0, ih1, ih2⟩ := vinculumlaw10_PositionAll.mono_l k
  unfold vinculumlaw10_PositionAll.f
  repeat' first
      | (with_reducible exact ih0 _ _ _ _ _)
      | (with_reducible exact ih1 _ _ _ _ _ _)
      | (with_reducible exact ih2 _ _ _ _ _ _ _)
      | (with_reducible exact position_All.mono _ _ _ _ _)
      | (with_reducible exact position_First.mono _ _ _ _ _)
      | (with_reducible exact position_Last.mono _ _ _ _ _)
      | (with_reducible exact vinculumlaw10_awake.mono _)
      | (with_reducible exact vinculumlaw10_few.mono _ _ _ _ _ _)
      | (with_reducible exact vinculumref10_All.mono _ _ _ _ _)
      | (with_reducible exact vinculumref10_Same.mono _ _ _)
      | (with_reducible exact LeO.refl _)
      | (with_reducible exact LeO.none _)
      | (with_reducible refine LeO.ite ?_ ?_)
      | (with_reducible refine LeO.bind ?_ (fun _ => ?_))
      | exact ih0 _ _ _ _ _
      | exact ih1 _ _ _ _ _ _
      | exact ih2 _ _ _ _ _ _ _
      | exact position_All.mono _ _ _ _ _
      | exact position_First.mono _ _ _ _ _
      | exact position_Last.mono _ _ _ _ _
      | exact vinculumlaw10_awake.mono _
      | exact vinculumlaw10_few.mono _ _ _ _ _ _
      | exact vinculumref10_All.mono _ _ _ _ _
      | exact vinculumref10_Same.mono _ _ _
      | exact LeO.none _
      | refine LeO.ite ?_ ?_
      | refine LeO.bind ?_ (fun _ => ?_)
set_option maxHeartbeats 8000000 in
set_option maxRecDepth 100000 in
theorem vinculumlaw10_PositionAll.calls (k : Nat) (a0_0 : Int) (a0_1 : ByteArray) (a0_2 : Int) (A0_3 : Option Addr) (c0_3 : Nat) (l0_3 : List (S36)) (r : Bool) (w : World) (hr0_3 : Kd.C k36 w A0_3 l0_3.length l0_3) (hc0_3 : l0_3.length ≤ c0_3) (h : vinculumlaw10_PositionAll.f k a0_0 a0_1 a0_2 l0_3 = some r) :
    Calls Tryd.prog 9 #[.agg #[.int .i64 a0_0, .string a0_1, .int .i64 a0_2, .slice A0_3 l0_3.length c0_3]] w fun e w' => e = .returned (.bool r) ∧ Below w.heap.size w w' := by
  have hu36 := Tryd.underlying36
  have HR0_3 := Aside0.mk hr0_3
  have HC0_3 := Aside0.mk hc0_3
  clear hr0_3 hc0_3
  have HB := Aside0.mk (Below.refl w.heap.size w)
  have H : ((vinculumlaw10_awake.f k).bind fun t562 => (if t562 = true then ((vinculumlaw10_few.f k a0_0 a0_1 a0_2 l0_3 ([] : List Int)).bind fun t563 => (vinculumlaw10_PositionAll.j0 k (!t563) a0_0 a0_1 a0_2 l0_3)) else (vinculumlaw10_PositionAll.j0 k true a0_0 a0_1 a0_2 l0_3))) = some r := h
  clear h
  have HC2 := Aside0.mk H
  clear H
  go_enter Tryd.func9, Tryd.ntmps9
  go_upto_region 1 with (first | ((with_reducible refine gate_dst (N := 1) rfl ?_); (try (refine gate_guard (by rfl) ?_; dsimp only)); refine box_event ?hg (N := 1) ?hd (cs := #[.int .i64 a0_0, .string a0_1, .int .i64 a0_2, .slice A0_3 l0_3.length c0_3]) (t := 36) ?hr ?_; (case hd => rfl); (case hg => rfl); (case hr => first | (go_simp; done) | (go_simp; rfl)); intro gb561 hg w3 hbox hb; have n0_ := Aside0.mk (below_step (by repeat (first | (with_reducible first | exact HB.out | apply below_alloc | apply pw_below_drewN | apply below_drew1) | exact HB.out)) hb); have n1_ := Aside0.mk (hbox); have n2_ := Aside0.mk ((by rw [hg]; exact (below_size (by repeat (first | (with_reducible first | exact HB.out | apply below_alloc | apply pw_below_drewN | apply below_drew1) | exact HB.out))) : w.heap.size ≤ gb561)); have n3_ := Aside0.mk ((by rw [hg]; exact (below_size (by repeat (first | (with_reducible first | exact HB.out | apply below_alloc | apply pw_below_drewN | apply below_drew1) | exact HB.out))) : w.heap.size ≤ gb561)); clear HB; have HB := n0_; have BK561 := n1_; have GW561 := n2_; have GE561 := n3_; clear n0_ n1_ n2_ n3_; clear hb hbox hg))
  repeat (go_quiet (first | ((with_reducible refine gate_dst (N := 1) rfl ?_); (try (refine gate_guard (by rfl) ?_; dsimp only)); refine box_event ?hg (N := 1) ?hd (cs := #[.int .i64 a0_0, .string a0_1, .int .i64 a0_2, .slice A0_3 l0_3.length c0_3]) (t := 36) ?hr ?_; (case hd => rfl); (case hg => rfl); (case hr => first | (go_simp; done) | (go_simp; rfl)); intro gb561 hg w3 hbox hb; have n0_ := Aside0.mk (below_step (by repeat (first | (with_reducible first | exact HB.out | apply below_alloc | apply pw_below_drewN | apply below_drew1) | exact HB.out)) hb); have n1_ := Aside0.mk (hbox); have n2_ := Aside0.mk ((by rw [hg]; exact (below_size (by repeat (first | (with_reducible first | exact HB.out | apply below_alloc | apply pw_below_drewN | apply below_drew1) | exact HB.out))) : w.heap.size ≤ gb561)); have n3_ := Aside0.mk ((by rw [hg]; exact (below_size (by repeat (first | (with_reducible first | exact HB.out | apply below_alloc | apply pw_below_drewN | apply below_drew1) | exact HB.out))) : w.heap.size ≤ gb561)); clear HB; have HB := n0_; have BK561 := n1_; have GW561 := n2_; have GE561 := n3_; clear n0_ n1_ n2_ n3_; clear hb hbox hg)); go_upto_region 1 with (first | ((with_reducible refine gate_dst (N := 1) rfl ?_); (try (refine gate_guard (by rfl) ?_; dsimp only)); refine box_event ?hg (N := 1) ?hd (cs := #[.int .i64 a0_0, .string a0_1, .int .i64 a0_2, .slice A0_3 l0_3.length c0_3]) (t := 36) ?hr ?_; (case hd => rfl); (case hg => rfl); (case hr => first | (go_simp; done) | (go_simp; rfl)); intro gb561 hg w3 hbox hb; have n0_ := Aside0.mk (below_step (by repeat (first | (with_reducible first | exact HB.out | apply below_alloc | apply pw_below_drewN | apply below_drew1) | exact HB.out)) hb); have n1_ := Aside0.mk (hbox); have n2_ := Aside0.mk ((by rw [hg]; exact (below_size (by repeat (first | (with_reducible first | exact HB.out | apply below_alloc | apply pw_below_drewN | apply below_drew1) | exact HB.out))) : w.heap.size ≤ gb561)); have n3_ := Aside0.mk ((by rw [hg]; exact (below_size (by repeat (first | (with_reducible first | exact HB.out | apply below_alloc | apply pw_below_drewN | apply below_drew1) | exact HB.out))) : w.heap.size ≤ gb561)); clear HB; have HB := n0_; have BK561 := n1_; have GW561 := n2_; have GE561 := n3_; clear n0_ n1_ n2_ n3_; clear hb hbox hg)))
  (try simp only [Act.put, List.setIfInBounds_toArray, List.set_cons_zero, List.set_cons_succ])
  go_cut [18] (fun v18 wc => ∃ (kq : Nat) (x18_1 : Bool), v18 = .bool x18_1 ∧ Aside0 (vinculumlaw10_PositionAll.j0 kq x18_1 a0_0 a0_1 a0_2 l0_3 = some r) ∧ Aside0 (kq ≤ k) ∧ Aside0 (wc.heap[gb561]? = some (.cells #[.int .i64 a0_0, .string a0_1, .int .i64 a0_2, (.slice A0_3 l0_3.length c0_3)] 36 (0, 0))) ∧ Aside0 (Below w.heap.size w wc))
  case first =>
    have H := HC2.out
    clear HC2
    replace H := Option.bind_eq_some_iff.mp H
    obtain ⟨t562, A40, H⟩ := H
    replace H : (if t562 = true then ((vinculumlaw10_few.f k a0_0 a0_1 a0_2 l0_3 ([] : List Int)).bind fun t563 => (vinculumlaw10_PositionAll.j0 k (!t563) a0_0 a0_1 a0_2 l0_3)) else (vinculumlaw10_PositionAll.j0 k true a0_0 a0_1 a0_2 l0_3)) = some r := H
    have A4 := Aside0.mk A40
    clear A40
    by_cases c5 : t562 = true
    · subst c5
      have H1 : ((vinculumlaw10_few.f k a0_0 a0_1 a0_2 l0_3 ([] : List Int)).bind fun t563 => (vinculumlaw10_PositionAll.j0 k (!t563) a0_0 a0_1 a0_2 l0_3)) = some r := by rw [if_pos rfl] at H; exact H
      clear H
      have H := H1
      clear H1
      replace H := Option.bind_eq_some_iff.mp H
      obtain ⟨t563, A60, H⟩ := H
      replace H : (vinculumlaw10_PositionAll.j0 k (!t563) a0_0 a0_1 a0_2 l0_3) = some r := H
      have A6 := Aside0.mk A60
      clear A60
      have H' := Aside0.mk H
      clear H
      go_wp2_with (first | (go_at_call 25; (with_reducible refine (vinculumlaw10_awake.calls k  true _ A4.out).mono ?_); rintro e w7 ⟨rfl, hb⟩; have n0_ := Aside0.mk (blk_below (g := gb561) (o := .cells #[.int .i64 a0_0, .string a0_1, .int .i64 a0_2, .slice A0_3 l0_3.length c0_3] 36 (0, 0)) (by (with_reducible repeat (first | refine blk_drewN ?_ _ | refine blk_drew ?_ | refine blk_alloc ?_ _)); exact BK561.out) hb); have n1_ := Aside0.mk (below_step (by repeat (first | (with_reducible first | exact HB.out | apply below_alloc | apply pw_below_drewN | apply below_drew1 | refine below_set ?_ GE561.out) | exact HB.out)) hb); clear BK561; clear HB; have BK561 := n0_; have HB := n1_; clear n0_ n1_; (try clear hb); (try clear hb2); (try clear hk); (try clear hi); have hcz8_0 : w7.cell? ⟨gb561, 0, none⟩ = some (.int .i64 a0_0) := (blk_cell BK561.out 0).trans rfl; have hcz8_1 : w7.cell? ⟨gb561, 1, none⟩ = some (.string a0_1) := (blk_cell BK561.out 1).trans rfl; have hcz8_2 : w7.cell? ⟨gb561, 2, none⟩ = some (.int .i64 a0_2) := (blk_cell BK561.out 2).trans rfl; have hcz8_3 : w7.cell? ⟨gb561, 3, none⟩ = some (.slice A0_3 l0_3.length c0_3) := (blk_cell BK561.out 3).trans rfl; have hfz8_0 := blk_frozen BK561.out 0; have hfz8_1 := blk_frozen BK561.out 1; have hfz8_2 := blk_frozen BK561.out 2; have hfz8_3 := blk_frozen BK561.out 3) | (go_at_call 26; (refine (vinculumlaw10_few.calls k a0_0 a0_1 a0_2 _ _ l0_3 _ _ ([] : List Int) t563 _ ?side1 ?side2 ?side3 ?side4 A6.out).mono ?_); (case side1 => repeat (first | exact (Kd.C_below HR0_3.out HB.out) | (with_reducible refine Kd.C_alloc ?_ _) | (with_reducible refine Kd.C_drewN ?_ _) | (with_reducible refine Kd.C_drew ?_))); (case side2 => exact HC0_3.out); (case side3 => exact Kd.C_nil _ _); (case side4 => exact Nat.le_refl _); rintro e w9 ⟨rfl, hb⟩; have n0_ := Aside0.mk (blk_below (g := gb561) (o := .cells #[.int .i64 a0_0, .string a0_1, .int .i64 a0_2, .slice A0_3 l0_3.length c0_3] 36 (0, 0)) (by (with_reducible repeat (first | refine blk_drewN ?_ _ | refine blk_drew ?_ | refine blk_alloc ?_ _)); exact BK561.out) hb); have n1_ := Aside0.mk (below_step (by repeat (first | (with_reducible first | exact HB.out | apply below_alloc | apply pw_below_drewN | apply below_drew1 | refine below_set ?_ GE561.out) | exact HB.out)) hb); clear BK561; clear HB; have BK561 := n0_; have HB := n1_; clear n0_ n1_; (try clear hb); (try clear hb2); (try clear hk); (try clear hi)))
      repeat (go_quiet (first | (go_at_call 25; (with_reducible refine (vinculumlaw10_awake.calls k  true _ A4.out).mono ?_); rintro e w7 ⟨rfl, hb⟩; have n0_ := Aside0.mk (blk_below (g := gb561) (o := .cells #[.int .i64 a0_0, .string a0_1, .int .i64 a0_2, .slice A0_3 l0_3.length c0_3] 36 (0, 0)) (by (with_reducible repeat (first | refine blk_drewN ?_ _ | refine blk_drew ?_ | refine blk_alloc ?_ _)); exact BK561.out) hb); have n1_ := Aside0.mk (below_step (by repeat (first | (with_reducible first | exact HB.out | apply below_alloc | apply pw_below_drewN | apply below_drew1 | refine below_set ?_ GE561.out) | exact HB.out)) hb); clear BK561; clear HB; have BK561 := n0_; have HB := n1_; clear n0_ n1_; (try clear hb); (try clear hb2); (try clear hk); (try clear hi); have hcz8_0 : w7.cell? ⟨gb561, 0, none⟩ = some (.int .i64 a0_0) := (blk_cell BK561.out 0).trans rfl; have hcz8_1 : w7.cell? ⟨gb561, 1, none⟩ = some (.string a0_1) := (blk_cell BK561.out 1).trans rfl; have hcz8_2 : w7.cell? ⟨gb561, 2, none⟩ = some (.int .i64 a0_2) := (blk_cell BK561.out 2).trans rfl; have hcz8_3 : w7.cell? ⟨gb561, 3, none⟩ = some (.slice A0_3 l0_3.length c0_3) := (blk_cell BK561.out 3).trans rfl; have hfz8_0 := blk_frozen BK561.out 0; have hfz8_1 := blk_frozen BK561.out 1; have hfz8_2 := blk_frozen BK561.out 2; have hfz8_3 := blk_frozen BK561.out 3) | (go_at_call 26; (refine (vinculumlaw10_few.calls k a0_0 a0_1 a0_2 _ _ l0_3 _ _ ([] : List Int) t563 _ ?side1 ?side2 ?side3 ?side4 A6.out).mono ?_); (case side1 => repeat (first | exact (Kd.C_below HR0_3.out HB.out) | (with_reducible refine Kd.C_alloc ?_ _) | (with_reducible refine Kd.C_drewN ?_ _) | (with_reducible refine Kd.C_drew ?_))); (case side2 => exact HC0_3.out); (case side3 => exact Kd.C_nil _ _); (case side4 => exact Nat.le_refl _); rintro e w9 ⟨rfl, hb⟩; have n0_ := Aside0.mk (blk_below (g := gb561) (o := .cells #[.int .i64 a0_0, .string a0_1, .int .i64 a0_2, .slice A0_3 l0_3.length c0_3] 36 (0, 0)) (by (with_reducible repeat (first | refine blk_drewN ?_ _ | refine blk_drew ?_ | refine blk_alloc ?_ _)); exact BK561.out) hb); have n1_ := Aside0.mk (below_step (by repeat (first | (with_reducible first | exact HB.out | apply below_alloc | apply pw_below_drewN | apply below_drew1 | refine below_set ?_ GE561.out) | exact HB.out)) hb); clear BK561; clear HB; have BK561 := n0_; have HB := n1_; clear n0_ n1_; (try clear hb); (try clear hb2); (try clear hk); (try clear hi))); try go_wp2_with (first | (go_at_call 25; (with_reducible refine (vinculumlaw10_awake.calls k  true _ A4.out).mono ?_); rintro e w7 ⟨rfl, hb⟩; have n0_ := Aside0.mk (blk_below (g := gb561) (o := .cells #[.int .i64 a0_0, .string a0_1, .int .i64 a0_2, .slice A0_3 l0_3.length c0_3] 36 (0, 0)) (by (with_reducible repeat (first | refine blk_drewN ?_ _ | refine blk_drew ?_ | refine blk_alloc ?_ _)); exact BK561.out) hb); have n1_ := Aside0.mk (below_step (by repeat (first | (with_reducible first | exact HB.out | apply below_alloc | apply pw_below_drewN | apply below_drew1 | refine below_set ?_ GE561.out) | exact HB.out)) hb); clear BK561; clear HB; have BK561 := n0_; have HB := n1_; clear n0_ n1_; (try clear hb); (try clear hb2); (try clear hk); (try clear hi); have hcz8_0 : w7.cell? ⟨gb561, 0, none⟩ = some (.int .i64 a0_0) := (blk_cell BK561.out 0).trans rfl; have hcz8_1 : w7.cell? ⟨gb561, 1, none⟩ = some (.string a0_1) := (blk_cell BK561.out 1).trans rfl; have hcz8_2 : w7.cell? ⟨gb561, 2, none⟩ = some (.int .i64 a0_2) := (blk_cell BK561.out 2).trans rfl; have hcz8_3 : w7.cell? ⟨gb561, 3, none⟩ = some (.slice A0_3 l0_3.length c0_3) := (blk_cell BK561.out 3).trans rfl; have hfz8_0 := blk_frozen BK561.out 0; have hfz8_1 := blk_frozen BK561.out 1; have hfz8_2 := blk_frozen BK561.out 2; have hfz8_3 := blk_frozen BK561.out 3) | (go_at_call 26; (refine (vinculumlaw10_few.calls k a0_0 a0_1 a0_2 _ _ l0_3 _ _ ([] : List Int) t563 _ ?side1 ?side2 ?side3 ?side4 A6.out).mono ?_); (case side1 => repeat (first | exact (Kd.C_below HR0_3.out HB.out) | (with_reducible refine Kd.C_alloc ?_ _) | (with_reducible refine Kd.C_drewN ?_ _) | (with_reducible refine Kd.C_drew ?_))); (case side2 => exact HC0_3.out); (case side3 => exact Kd.C_nil _ _); (case side4 => exact Nat.le_refl _); rintro e w9 ⟨rfl, hb⟩; have n0_ := Aside0.mk (blk_below (g := gb561) (o := .cells #[.int .i64 a0_0, .string a0_1, .int .i64 a0_2, .slice A0_3 l0_3.length c0_3] 36 (0, 0)) (by (with_reducible repeat (first | refine blk_drewN ?_ _ | refine blk_drew ?_ | refine blk_alloc ?_ _)); exact BK561.out) hb); have n1_ := Aside0.mk (below_step (by repeat (first | (with_reducible first | exact HB.out | apply below_alloc | apply pw_below_drewN | apply below_drew1 | refine below_set ?_ GE561.out) | exact HB.out)) hb); clear BK561; clear HB; have BK561 := n0_; have HB := n1_; clear n0_ n1_; (try clear hb); (try clear hb2); (try clear hk); (try clear hi))))
      go_meet
      case rel => exact ⟨_, (!t563), (by first | rfl | (simp; done) | (simp [*]; done)), H', ⟨by first | omega | exact Nat.le_refl _⟩, ⟨by (with_reducible repeat (first | refine blk_drewN ?_ _ | refine blk_drew ?_ | refine blk_alloc ?_ _)); exact BK561.out⟩, ⟨by repeat (first | (with_reducible first | exact HB.out | apply below_alloc | apply pw_below_drewN | apply below_drew1 | refine below_set ?_ GE561.out) | exact HB.out)⟩⟩
    · replace c5 := Bool.eq_false_iff.mpr c5
      subst c5
      have H1 : (vinculumlaw10_PositionAll.j0 k true a0_0 a0_1 a0_2 l0_3) = some r := by rw [if_neg (show ¬ (false = true) by decide)] at H; exact H
      clear H
      have H := H1
      clear H1
      have H' := Aside0.mk H
      clear H
      go_wp2_with (first | (go_at_call 25; (with_reducible refine (vinculumlaw10_awake.calls k  false _ A4.out).mono ?_); rintro e w10 ⟨rfl, hb⟩; have n0_ := Aside0.mk (blk_below (g := gb561) (o := .cells #[.int .i64 a0_0, .string a0_1, .int .i64 a0_2, .slice A0_3 l0_3.length c0_3] 36 (0, 0)) (by (with_reducible repeat (first | refine blk_drewN ?_ _ | refine blk_drew ?_ | refine blk_alloc ?_ _)); exact BK561.out) hb); have n1_ := Aside0.mk (below_step (by repeat (first | (with_reducible first | exact HB.out | apply below_alloc | apply pw_below_drewN | apply below_drew1 | refine below_set ?_ GE561.out) | exact HB.out)) hb); clear BK561; clear HB; have BK561 := n0_; have HB := n1_; clear n0_ n1_; (try clear hb); (try clear hb2); (try clear hk); (try clear hi)))
      repeat (go_quiet (first | (go_at_call 25; (with_reducible refine (vinculumlaw10_awake.calls k  false _ A4.out).mono ?_); rintro e w10 ⟨rfl, hb⟩; have n0_ := Aside0.mk (blk_below (g := gb561) (o := .cells #[.int .i64 a0_0, .string a0_1, .int .i64 a0_2, .slice A0_3 l0_3.length c0_3] 36 (0, 0)) (by (with_reducible repeat (first | refine blk_drewN ?_ _ | refine blk_drew ?_ | refine blk_alloc ?_ _)); exact BK561.out) hb); have n1_ := Aside0.mk (below_step (by repeat (first | (with_reducible first | exact HB.out | apply below_alloc | apply pw_below_drewN | apply below_drew1 | refine below_set ?_ GE561.out) | exact HB.out)) hb); clear BK561; clear HB; have BK561 := n0_; have HB := n1_; clear n0_ n1_; (try clear hb); (try clear hb2); (try clear hk); (try clear hi))); try go_wp2_with (first | (go_at_call 25; (with_reducible refine (vinculumlaw10_awake.calls k  false _ A4.out).mono ?_); rintro e w10 ⟨rfl, hb⟩; have n0_ := Aside0.mk (blk_below (g := gb561) (o := .cells #[.int .i64 a0_0, .string a0_1, .int .i64 a0_2, .slice A0_3 l0_3.length c0_3] 36 (0, 0)) (by (with_reducible repeat (first | refine blk_drewN ?_ _ | refine blk_drew ?_ | refine blk_alloc ?_ _)); exact BK561.out) hb); have n1_ := Aside0.mk (below_step (by repeat (first | (with_reducible first | exact HB.out | apply below_alloc | apply pw_below_drewN | apply below_drew1 | refine below_set ?_ GE561.out) | exact HB.out)) hb); clear BK561; clear HB; have BK561 := n0_; have HB := n1_; clear n0_ n1_; (try clear hb); (try clear hb2); (try clear hk); (try clear hi))))
      go_meet
      case rel => exact ⟨_, (true), (by first | rfl | (simp; done) | (simp [*]; done)), H', ⟨by first | omega | exact Nat.le_refl _⟩, ⟨by (with_reducible repeat (first | refine blk_drewN ?_ _ | refine blk_drew ?_ | refine blk_alloc ?_ _)); exact BK561.out⟩, ⟨by repeat (first | (with_reducible first | exact HB.out | apply below_alloc | apply pw_below_drewN | apply below_drew1 | refine below_set ?_ GE561.out) | exact HB.out)⟩⟩
  case rest =>
    clear HC2
    try clear p2
    try clear c5
    try clear c9
    try clear hcz8_0
    try clear hcz8_1
    try clear hcz8_2
    try clear hcz8_3
    try clear hfz8_0
    try clear hfz8_1
    try clear hfz8_2
    try clear hfz8_3
    obtain ⟨kq, x18_1, rfl, HA, HJ1, BK561, HB⟩ := hcut
    cases kq with
    | zero => exact absurd HA.out (by simp [vinculumlaw10_PositionAll.j0])
    | succ kj1 =>
      have H := HA.out
      clear HA
      simp only [vinculumlaw10_PositionAll.j0] at H
      by_cases c11 : x18_1 = true
      · subst c11
        have H1 : ((vinculumlaw10_awake.f kj1).bind fun t564 => (some t564)) = some r := by rw [if_pos rfl] at H; exact H
        clear H
        have H := H1
        clear H1
        replace H := Option.bind_eq_some_iff.mp H
        obtain ⟨t564, A120, H⟩ := H
        replace H : (some t564) = some r := H
        have A12 := Aside0.mk A120
        clear A120
        obtain rfl := Option.some.inj H
        go_wp2_with (first | (go_at_call 25; (with_reducible refine (vinculumlaw10_awake.calls kj1  t564 _ A12.out).mono ?_); rintro e w13 ⟨rfl, hb⟩; have n0_ := Aside0.mk (blk_below (g := gb561) (o := .cells #[.int .i64 a0_0, .string a0_1, .int .i64 a0_2, .slice A0_3 l0_3.length c0_3] 36 (0, 0)) (by (with_reducible repeat (first | refine blk_drewN ?_ _ | refine blk_drew ?_ | refine blk_alloc ?_ _)); exact BK561.out) hb); have n1_ := Aside0.mk (below_step (by repeat (first | (with_reducible first | exact HB.out | apply below_alloc | apply pw_below_drewN | apply below_drew1 | refine below_set ?_ GE561.out) | exact HB.out)) hb); clear BK561; clear HB; have BK561 := n0_; have HB := n1_; clear n0_ n1_; (try clear hb); (try clear hb2); (try clear hk); (try clear hi)))
        repeat (go_quiet (first | (go_at_call 25; (with_reducible refine (vinculumlaw10_awake.calls kj1  t564 _ A12.out).mono ?_); rintro e w13 ⟨rfl, hb⟩; have n0_ := Aside0.mk (blk_below (g := gb561) (o := .cells #[.int .i64 a0_0, .string a0_1, .int .i64 a0_2, .slice A0_3 l0_3.length c0_3] 36 (0, 0)) (by (with_reducible repeat (first | refine blk_drewN ?_ _ | refine blk_drew ?_ | refine blk_alloc ?_ _)); exact BK561.out) hb); have n1_ := Aside0.mk (below_step (by repeat (first | (with_reducible first | exact HB.out | apply below_alloc | apply pw_below_drewN | apply below_drew1 | refine below_set ?_ GE561.out) | exact HB.out)) hb); clear BK561; clear HB; have BK561 := n0_; have HB := n1_; clear n0_ n1_; (try clear hb); (try clear hb2); (try clear hk); (try clear hi))); try go_wp2_with (first | (go_at_call 25; (with_reducible refine (vinculumlaw10_awake.calls kj1  t564 _ A12.out).mono ?_); rintro e w13 ⟨rfl, hb⟩; have n0_ := Aside0.mk (blk_below (g := gb561) (o := .cells #[.int .i64 a0_0, .string a0_1, .int .i64 a0_2, .slice A0_3 l0_3.length c0_3] 36 (0, 0)) (by (with_reducible repeat (first | refine blk_drewN ?_ _ | refine blk_drew ?_ | refine blk_alloc ?_ _)); exact BK561.out) hb); have n1_ := Aside0.mk (below_step (by repeat (first | (with_reducible first | exact HB.out | apply below_alloc | apply pw_below_drewN | apply below_drew1 | refine below_set ?_ GE561.out) | exact HB.out)) hb); clear BK561; clear HB; have BK561 := n0_; have HB := n1_; clear n0_ n1_; (try clear hb); (try clear hb2); (try clear hk); (try clear hi))))
        go_ret
        exact ⟨by first | rfl | (simp [errW_none, errW_some] <;> rfl) | (simp [*, errW_none, errW_some] <;> rfl), by repeat (first | (with_reducible first | exact HB.out | apply below_alloc | apply pw_below_drewN | apply below_drew1 | refine below_set ?_ GE561.out) | exact HB.out)⟩
      · replace c11 := Bool.eq_false_iff.mpr c11
        subst c11
        have H1 : ((position_All.f kj1 a0_0 a0_1 a0_2 l0_3).bind fun bt565 => ((vinculumref10_All.f kj1 a0_0 a0_1 a0_2 l0_3).bind fun bt569 => ((position_First.f kj1 a0_0 a0_1 a0_2 l0_3).bind fun bt573 => ((position_Last.f kj1 a0_0 a0_1 a0_2 l0_3).bind fun bt577 => (if bt565.2 = bt569.2 then (if bt573.2 = bt569.2 then (if bt577.2 = bt569.2 then (vinculumlaw10_PositionAll.j1 kj1 bt565.1 bt569.1 bt569.2 bt573.1 bt577.1 ((bt565.1.length : Int) != (bt569.1.length : Int))) else (vinculumlaw10_PositionAll.j1 kj1 bt565.1 bt569.1 bt569.2 bt573.1 bt577.1 true)) else (vinculumlaw10_PositionAll.j1 kj1 bt565.1 bt569.1 bt569.2 bt573.1 bt577.1 true)) else (vinculumlaw10_PositionAll.j1 kj1 bt565.1 bt569.1 bt569.2 bt573.1 bt577.1 true)))))) = some r := by rw [if_neg (show ¬ (false = true) by decide)] at H; exact H
        clear H
        have H := H1
        clear H1
        replace H := Option.bind_eq_some_iff.mp H
        obtain ⟨⟨t565, t568⟩, A140, H⟩ := H
        replace H : ((vinculumref10_All.f kj1 a0_0 a0_1 a0_2 l0_3).bind fun bt569 => ((position_First.f kj1 a0_0 a0_1 a0_2 l0_3).bind fun bt573 => ((position_Last.f kj1 a0_0 a0_1 a0_2 l0_3).bind fun bt577 => (if t568 = bt569.2 then (if bt573.2 = bt569.2 then (if bt577.2 = bt569.2 then (vinculumlaw10_PositionAll.j1 kj1 t565 bt569.1 bt569.2 bt573.1 bt577.1 ((t565.length : Int) != (bt569.1.length : Int))) else (vinculumlaw10_PositionAll.j1 kj1 t565 bt569.1 bt569.2 bt573.1 bt577.1 true)) else (vinculumlaw10_PositionAll.j1 kj1 t565 bt569.1 bt569.2 bt573.1 bt577.1 true)) else (vinculumlaw10_PositionAll.j1 kj1 t565 bt569.1 bt569.2 bt573.1 bt577.1 true))))) = some r := H
        have A14 := Aside0.mk A140
        clear A140
        replace H := Option.bind_eq_some_iff.mp H
        obtain ⟨⟨t569, t572⟩, A150, H⟩ := H
        replace H : ((position_First.f kj1 a0_0 a0_1 a0_2 l0_3).bind fun bt573 => ((position_Last.f kj1 a0_0 a0_1 a0_2 l0_3).bind fun bt577 => (if t568 = t572 then (if bt573.2 = t572 then (if bt577.2 = t572 then (vinculumlaw10_PositionAll.j1 kj1 t565 t569 t572 bt573.1 bt577.1 ((t565.length : Int) != (t569.length : Int))) else (vinculumlaw10_PositionAll.j1 kj1 t565 t569 t572 bt573.1 bt577.1 true)) else (vinculumlaw10_PositionAll.j1 kj1 t565 t569 t572 bt573.1 bt577.1 true)) else (vinculumlaw10_PositionAll.j1 kj1 t565 t569 t572 bt573.1 bt577.1 true)))) = some r := H
        have A15 := Aside0.mk A150
        clear A150
        replace H := Option.bind_eq_some_iff.mp H
        obtain ⟨⟨t573, t576⟩, A160, H⟩ := H
        replace H : ((position_Last.f kj1 a0_0 a0_1 a0_2 l0_3).bind fun bt577 => (if t568 = t572 then (if t576 = t572 then (if bt577.2 = t572 then (vinculumlaw10_PositionAll.j1 kj1 t565 t569 t572 t573 bt577.1 ((t565.length : Int) != (t569.length : Int))) else (vinculumlaw10_PositionAll.j1 kj1 t565 t569 t572 t573 bt577.1 true)) else (vinculumlaw10_PositionAll.j1 kj1 t565 t569 t572 t573 bt577.1 true)) else (vinculumlaw10_PositionAll.j1 kj1 t565 t569 t572 t573 bt577.1 true))) = some r := H
        have A16 := Aside0.mk A160
        clear A160
        replace H := Option.bind_eq_some_iff.mp H
        obtain ⟨⟨t577, t580⟩, A170, H⟩ := H
        replace H : (if t568 = t572 then (if t576 = t572 then (if t580 = t572 then (vinculumlaw10_PositionAll.j1 kj1 t565 t569 t572 t573 t577 ((t565.length : Int) != (t569.length : Int))) else (vinculumlaw10_PositionAll.j1 kj1 t565 t569 t572 t573 t577 true)) else (vinculumlaw10_PositionAll.j1 kj1 t565 t569 t572 t573 t577 true)) else (vinculumlaw10_PositionAll.j1 kj1 t565 t569 t572 t573 t577 true)) = some r := H
        have A17 := Aside0.mk A170
        clear A170
        have HC18 := Aside0.mk H
        clear H
        have hcz19_0 : wc.cell? ⟨gb561, 0, none⟩ = some (.int .i64 a0_0) := (blk_cell BK561.out 0).trans rfl
        have hcz19_1 : wc.cell? ⟨gb561, 1, none⟩ = some (.string a0_1) := (blk_cell BK561.out 1).trans rfl
        have hcz19_2 : wc.cell? ⟨gb561, 2, none⟩ = some (.int .i64 a0_2) := (blk_cell BK561.out 2).trans rfl
        have hcz19_3 : wc.cell? ⟨gb561, 3, none⟩ = some (.slice A0_3 l0_3.length c0_3) := (blk_cell BK561.out 3).trans rfl
        have hfz19_0 := blk_frozen BK561.out 0
        have hfz19_1 := blk_frozen BK561.out 1
        have hfz19_2 := blk_frozen BK561.out 2
        have hfz19_3 := blk_frozen BK561.out 3
        go_upto_region 7 with (first | (go_at_call 37; (with_reducible refine (position_All.calls kj1 a0_0 a0_1 a0_2 _ _ l0_3 t565 t568 _ ?side1 ?side2 A14.out).mono ?_); (case side1 => repeat (first | exact (Kd.C_below HR0_3.out HB.out) | (with_reducible refine Kd.C_alloc ?_ _) | (with_reducible refine Kd.C_drewN ?_ _) | (with_reducible refine Kd.C_drew ?_))); (case side2 => exact HC0_3.out); rintro e w20 ⟨v566, rfl, ho0, hb⟩; have n0_ := Aside0.mk (Kd.N_lower (Kd.N_mono (ok' := fun k_ => k_ ≠ gb561) ho0 (fun k_ hk_ => (Kd.freshB (g := gb561) (o := .cells #[.int .i64 a0_0, .string a0_1, .int .i64 a0_2, .slice A0_3 l0_3.length c0_3] 36 (0, 0)) (by (with_reducible repeat (first | refine blk_drewN ?_ _ | refine blk_drew ?_ | refine blk_alloc ?_ _)); exact BK561.out) k_ hk_))) (below_size (by repeat (first | (with_reducible first | exact HB.out | apply below_alloc | apply pw_below_drewN | apply below_drew1 | refine below_set ?_ GE561.out) | exact HB.out)))); have n1_ := Aside0.mk (blk_below (g := gb561) (o := .cells #[.int .i64 a0_0, .string a0_1, .int .i64 a0_2, .slice A0_3 l0_3.length c0_3] 36 (0, 0)) (by (with_reducible repeat (first | refine blk_drewN ?_ _ | refine blk_drew ?_ | refine blk_alloc ?_ _)); exact BK561.out) hb); have n2_ := Aside0.mk (below_step (by repeat (first | (with_reducible first | exact HB.out | apply below_alloc | apply pw_below_drewN | apply below_drew1 | refine below_set ?_ GE561.out) | exact HB.out)) hb); clear BK561; clear HB; have HO567 := n0_; have BK561 := n1_; have HB := n2_; clear n0_ n1_ n2_; (try clear hb); (try clear hb2); (try clear hk); (try clear hi); (try clear ho0); have hcz21_0 : w20.cell? ⟨gb561, 0, none⟩ = some (.int .i64 a0_0) := (blk_cell BK561.out 0).trans rfl; have hcz21_1 : w20.cell? ⟨gb561, 1, none⟩ = some (.string a0_1) := (blk_cell BK561.out 1).trans rfl; have hcz21_2 : w20.cell? ⟨gb561, 2, none⟩ = some (.int .i64 a0_2) := (blk_cell BK561.out 2).trans rfl; have hcz21_3 : w20.cell? ⟨gb561, 3, none⟩ = some (.slice A0_3 l0_3.length c0_3) := (blk_cell BK561.out 3).trans rfl; have hfz21_0 := blk_frozen BK561.out 0; have hfz21_1 := blk_frozen BK561.out 1; have hfz21_2 := blk_frozen BK561.out 2; have hfz21_3 := blk_frozen BK561.out 3) | (go_at_call 38; (with_reducible refine (vinculumref10_All.calls kj1 a0_0 a0_1 a0_2 _ _ l0_3 t569 t572 _ ?side1 ?side2 A15.out).mono ?_); (case side1 => repeat (first | exact (Kd.C_below HR0_3.out HB.out) | (with_reducible refine Kd.C_alloc ?_ _) | (with_reducible refine Kd.C_drewN ?_ _) | (with_reducible refine Kd.C_drew ?_))); (case side2 => exact HC0_3.out); rintro e w22 ⟨v570, rfl, ho0, hb⟩; have n0_ := Aside0.mk (Kd.N_elder' (by (with_reducible repeat (first | apply Kd.N_alloc | apply Kd.N_drewN | apply Kd.N_drew)); exact HO567.out) (Kd.N_base ho0) hb); have n1_ := Aside0.mk (Kd.N_lower (Kd.N_mono (ok' := fun k_ => some k_ ≠ (v566 : Value).ownBlock ∧ k_ ≠ gb561) ho0 (fun k_ hk_ => ⟨(Kd.fresh' (Kd.N_lt (by (with_reducible repeat (first | apply Kd.N_alloc | apply Kd.N_drewN | apply Kd.N_drew)); exact HO567.out)) k_ hk_), (Kd.freshB (g := gb561) (o := .cells #[.int .i64 a0_0, .string a0_1, .int .i64 a0_2, .slice A0_3 l0_3.length c0_3] 36 (0, 0)) (by (with_reducible repeat (first | refine blk_drewN ?_ _ | refine blk_drew ?_ | refine blk_alloc ?_ _)); exact BK561.out) k_ hk_)⟩)) (below_size (by repeat (first | (with_reducible first | exact HB.out | apply below_alloc | apply pw_below_drewN | apply below_drew1 | refine below_set ?_ GE561.out) | exact HB.out)))); have n2_ := Aside0.mk (blk_below (g := gb561) (o := .cells #[.int .i64 a0_0, .string a0_1, .int .i64 a0_2, .slice A0_3 l0_3.length c0_3] 36 (0, 0)) (by (with_reducible repeat (first | refine blk_drewN ?_ _ | refine blk_drew ?_ | refine blk_alloc ?_ _)); exact BK561.out) hb); have n3_ := Aside0.mk (below_step (by repeat (first | (with_reducible first | exact HB.out | apply below_alloc | apply pw_below_drewN | apply below_drew1 | refine below_set ?_ GE561.out) | exact HB.out)) hb); clear HO567; clear BK561; clear HB; have HO567 := n0_; have HO571 := n1_; have BK561 := n2_; have HB := n3_; clear n0_ n1_ n2_ n3_; (try clear hb); (try clear hb2); (try clear hk); (try clear hi); (try clear ho0); have hcz23_0 : w22.cell? ⟨gb561, 0, none⟩ = some (.int .i64 a0_0) := (blk_cell BK561.out 0).trans rfl; have hcz23_1 : w22.cell? ⟨gb561, 1, none⟩ = some (.string a0_1) := (blk_cell BK561.out 1).trans rfl; have hcz23_2 : w22.cell? ⟨gb561, 2, none⟩ = some (.int .i64 a0_2) := (blk_cell BK561.out 2).trans rfl; have hcz23_3 : w22.cell? ⟨gb561, 3, none⟩ = some (.slice A0_3 l0_3.length c0_3) := (blk_cell BK561.out 3).trans rfl; have hfz23_0 := blk_frozen BK561.out 0; have hfz23_1 := blk_frozen BK561.out 1; have hfz23_2 := blk_frozen BK561.out 2; have hfz23_3 := blk_frozen BK561.out 3) | (go_at_call 39; (with_reducible refine (position_First.calls kj1 a0_0 a0_1 a0_2 _ _ l0_3 t573 t576 _ ?side1 ?side2 A16.out).mono ?_); (case side1 => repeat (first | exact (Kd.C_below HR0_3.out HB.out) | (with_reducible refine Kd.C_alloc ?_ _) | (with_reducible refine Kd.C_drewN ?_ _) | (with_reducible refine Kd.C_drew ?_))); (case side2 => exact HC0_3.out); rintro e w24 ⟨v574, rfl, ho0, hb⟩; have n0_ := Aside0.mk (Kd.N_below (by (with_reducible repeat (first | apply Kd.N_alloc | apply Kd.N_drewN | apply Kd.N_drew)); exact HO567.out) hb); have n1_ := Aside0.mk (Kd.N_below (by (with_reducible repeat (first | apply Kd.N_alloc | apply Kd.N_drewN | apply Kd.N_drew)); exact HO571.out) hb); have n2_ := Aside0.mk (Kd.V_lower (Kd.V_mono (ok' := fun k_ => some k_ ≠ (v566 : Value).ownBlock ∧ some k_ ≠ (v570 : Value).ownBlock ∧ k_ ≠ gb561) ho0 (fun k_ hk_ => ⟨(Kd.fresh' (Kd.N_lt (by (with_reducible repeat (first | apply Kd.N_alloc | apply Kd.N_drewN | apply Kd.N_drew)); exact HO567.out)) k_ hk_), (Kd.fresh' (Kd.N_lt (by (with_reducible repeat (first | apply Kd.N_alloc | apply Kd.N_drewN | apply Kd.N_drew)); exact HO571.out)) k_ hk_), (Kd.freshB (g := gb561) (o := .cells #[.int .i64 a0_0, .string a0_1, .int .i64 a0_2, .slice A0_3 l0_3.length c0_3] 36 (0, 0)) (by (with_reducible repeat (first | refine blk_drewN ?_ _ | refine blk_drew ?_ | refine blk_alloc ?_ _)); exact BK561.out) k_ hk_)⟩)) (below_size (by repeat (first | (with_reducible first | exact HB.out | apply below_alloc | apply pw_below_drewN | apply below_drew1 | refine below_set ?_ GE561.out) | exact HB.out)))); have n3_ := Aside0.mk (blk_below (g := gb561) (o := .cells #[.int .i64 a0_0, .string a0_1, .int .i64 a0_2, .slice A0_3 l0_3.length c0_3] 36 (0, 0)) (by (with_reducible repeat (first | refine blk_drewN ?_ _ | refine blk_drew ?_ | refine blk_alloc ?_ _)); exact BK561.out) hb); have n4_ := Aside0.mk (below_step (by repeat (first | (with_reducible first | exact HB.out | apply below_alloc | apply pw_below_drewN | apply below_drew1 | refine below_set ?_ GE561.out) | exact HB.out)) hb); clear HO567; clear HO571; clear BK561; clear HB; have HO567 := n0_; have HO571 := n1_; have HO575 := n2_; have BK561 := n3_; have HB := n4_; clear n0_ n1_ n2_ n3_ n4_; (try clear hb); (try clear hb2); (try clear hk); (try clear hi); (try clear ho0); have hcz25_0 : w24.cell? ⟨gb561, 0, none⟩ = some (.int .i64 a0_0) := (blk_cell BK561.out 0).trans rfl; have hcz25_1 : w24.cell? ⟨gb561, 1, none⟩ = some (.string a0_1) := (blk_cell BK561.out 1).trans rfl; have hcz25_2 : w24.cell? ⟨gb561, 2, none⟩ = some (.int .i64 a0_2) := (blk_cell BK561.out 2).trans rfl; have hcz25_3 : w24.cell? ⟨gb561, 3, none⟩ = some (.slice A0_3 l0_3.length c0_3) := (blk_cell BK561.out 3).trans rfl; have hfz25_0 := blk_frozen BK561.out 0; have hfz25_1 := blk_frozen BK561.out 1; have hfz25_2 := blk_frozen BK561.out 2; have hfz25_3 := blk_frozen BK561.out 3) | (go_at_call 40; (with_reducible refine (position_Last.calls kj1 a0_0 a0_1 a0_2 _ _ l0_3 t577 t580 _ ?side1 ?side2 A17.out).mono ?_); (case side1 => repeat (first | exact (Kd.C_below HR0_3.out HB.out) | (with_reducible refine Kd.C_alloc ?_ _) | (with_reducible refine Kd.C_drewN ?_ _) | (with_reducible refine Kd.C_drew ?_))); (case side2 => exact HC0_3.out); rintro e w26 ⟨v578, rfl, ho0, hb⟩; have n0_ := Aside0.mk (Kd.N_below (by (with_reducible repeat (first | apply Kd.N_alloc | apply Kd.N_drewN | apply Kd.N_drew)); exact HO567.out) hb); have n1_ := Aside0.mk (Kd.N_below (by (with_reducible repeat (first | apply Kd.N_alloc | apply Kd.N_drewN | apply Kd.N_drew)); exact HO571.out) hb); have n2_ := Aside0.mk (Kd.V_below (by (with_reducible repeat (first | apply Kd.V_alloc | apply Kd.V_drewN | apply Kd.V_drew)); exact HO575.out) hb); have n3_ := Aside0.mk (Kd.V_lower (Kd.V_mono (ok' := fun k_ => some k_ ≠ (v566 : Value).ownBlock ∧ some k_ ≠ (v570 : Value).ownBlock ∧ k_ ≠ gb561) ho0 (fun k_ hk_ => ⟨(Kd.fresh' (Kd.N_lt (by (with_reducible repeat (first | apply Kd.N_alloc | apply Kd.N_drewN | apply Kd.N_drew)); exact HO567.out)) k_ hk_), (Kd.fresh' (Kd.N_lt (by (with_reducible repeat (first | apply Kd.N_alloc | apply Kd.N_drewN | apply Kd.N_drew)); exact HO571.out)) k_ hk_), (Kd.freshB (g := gb561) (o := .cells #[.int .i64 a0_0, .string a0_1, .int .i64 a0_2, .slice A0_3 l0_3.length c0_3] 36 (0, 0)) (by (with_reducible repeat (first | refine blk_drewN ?_ _ | refine blk_drew ?_ | refine blk_alloc ?_ _)); exact BK561.out) k_ hk_)⟩)) (below_size (by repeat (first | (with_reducible first | exact HB.out | apply below_alloc | apply pw_below_drewN | apply below_drew1 | refine below_set ?_ GE561.out) | exact HB.out)))); have n4_ := Aside0.mk (blk_below (g := gb561) (o := .cells #[.int .i64 a0_0, .string a0_1, .int .i64 a0_2, .slice A0_3 l0_3.length c0_3] 36 (0, 0)) (by (with_reducible repeat (first | refine blk_drewN ?_ _ | refine blk_drew ?_ | refine blk_alloc ?_ _)); exact BK561.out) hb); have n5_ := Aside0.mk (below_step (by repeat (first | (with_reducible first | exact HB.out | apply below_alloc | apply pw_below_drewN | apply below_drew1 | refine below_set ?_ GE561.out) | exact HB.out)) hb); clear HO567; clear HO571; clear HO575; clear BK561; clear HB; have HO567 := n0_; have HO571 := n1_; have HO575 := n2_; have HO579 := n3_; have BK561 := n4_; have HB := n5_; clear n0_ n1_ n2_ n3_ n4_ n5_; (try clear hb); (try clear hb2); (try clear hk); (try clear hi); (try clear ho0)))
        repeat (go_quiet (first | (go_at_call 37; (with_reducible refine (position_All.calls kj1 a0_0 a0_1 a0_2 _ _ l0_3 t565 t568 _ ?side1 ?side2 A14.out).mono ?_); (case side1 => repeat (first | exact (Kd.C_below HR0_3.out HB.out) | (with_reducible refine Kd.C_alloc ?_ _) | (with_reducible refine Kd.C_drewN ?_ _) | (with_reducible refine Kd.C_drew ?_))); (case side2 => exact HC0_3.out); rintro e w20 ⟨v566, rfl, ho0, hb⟩; have n0_ := Aside0.mk (Kd.N_lower (Kd.N_mono (ok' := fun k_ => k_ ≠ gb561) ho0 (fun k_ hk_ => (Kd.freshB (g := gb561) (o := .cells #[.int .i64 a0_0, .string a0_1, .int .i64 a0_2, .slice A0_3 l0_3.length c0_3] 36 (0, 0)) (by (with_reducible repeat (first | refine blk_drewN ?_ _ | refine blk_drew ?_ | refine blk_alloc ?_ _)); exact BK561.out) k_ hk_))) (below_size (by repeat (first | (with_reducible first | exact HB.out | apply below_alloc | apply pw_below_drewN | apply below_drew1 | refine below_set ?_ GE561.out) | exact HB.out)))); have n1_ := Aside0.mk (blk_below (g := gb561) (o := .cells #[.int .i64 a0_0, .string a0_1, .int .i64 a0_2, .slice A0_3 l0_3.length c0_3] 36 (0, 0)) (by (with_reducible repeat (first | refine blk_drewN ?_ _ | refine blk_drew ?_ | refine blk_alloc ?_ _)); exact BK561.out) hb); have n2_ := Aside0.mk (below_step (by repeat (first | (with_reducible first | exact HB.out | apply below_alloc | apply pw_below_drewN | apply below_drew1 | refine below_set ?_ GE561.out) | exact HB.out)) hb); clear BK561; clear HB; have HO567 := n0_; have BK561 := n1_; have HB := n2_; clear n0_ n1_ n2_; (try clear hb); (try clear hb2); (try clear hk); (try clear hi); (try clear ho0); have hcz21_0 : w20.cell? ⟨gb561, 0, none⟩ = some (.int .i64 a0_0) := (blk_cell BK561.out 0).trans rfl; have hcz21_1 : w20.cell? ⟨gb561, 1, none⟩ = some (.string a0_1) := (blk_cell BK561.out 1).trans rfl; have hcz21_2 : w20.cell? ⟨gb561, 2, none⟩ = some (.int .i64 a0_2) := (blk_cell BK561.out 2).trans rfl; have hcz21_3 : w20.cell? ⟨gb561, 3, none⟩ = some (.slice A0_3 l0_3.length c0_3) := (blk_cell BK561.out 3).trans rfl; have hfz21_0 := blk_frozen BK561.out 0; have hfz21_1 := blk_frozen BK561.out 1; have hfz21_2 := blk_frozen BK561.out 2; have hfz21_3 := blk_frozen BK561.out 3) | (go_at_call 38; (with_reducible refine (vinculumref10_All.calls kj1 a0_0 a0_1 a0_2 _ _ l0_3 t569 t572 _ ?side1 ?side2 A15.out).mono ?_); (case side1 => repeat (first | exact (Kd.C_below HR0_3.out HB.out) | (with_reducible refine Kd.C_alloc ?_ _) | (with_reducible refine Kd.C_drewN ?_ _) | (with_reducible refine Kd.C_drew ?_))); (case side2 => exact HC0_3.out); rintro e w22 ⟨v570, rfl, ho0, hb⟩; have n0_ := Aside0.mk (Kd.N_elder' (by (with_reducible repeat (first | apply Kd.N_alloc | apply Kd.N_drewN | apply Kd.N_drew)); exact HO567.out) (Kd.N_base ho0) hb); have n1_ := Aside0.mk (Kd.N_lower (Kd.N_mono (ok' := fun k_ => some k_ ≠ (v566 : Value).ownBlock ∧ k_ ≠ gb561) ho0 (fun k_ hk_ => ⟨(Kd.fresh' (Kd.N_lt (by (with_reducible repeat (first | apply Kd.N_alloc | apply Kd.N_drewN | apply Kd.N_drew)); exact HO567.out)) k_ hk_), (Kd.freshB (g := gb561) (o := .cells #[.int .i64 a0_0, .string a0_1, .int .i64 a0_2, .slice A0_3 l0_3.length c0_3] 36 (0, 0)) (by (with_reducible repeat (first | refine blk_drewN ?_ _ | refine blk_drew ?_ | refine blk_alloc ?_ _)); exact BK561.out) k_ hk_)⟩)) (below_size (by repeat (first | (with_reducible first | exact HB.out | apply below_alloc | apply pw_below_drewN | apply below_drew1 | refine below_set ?_ GE561.out) | exact HB.out)))); have n2_ := Aside0.mk (blk_below (g := gb561) (o := .cells #[.int .i64 a0_0, .string a0_1, .int .i64 a0_2, .slice A0_3 l0_3.length c0_3] 36 (0, 0)) (by (with_reducible repeat (first | refine blk_drewN ?_ _ | refine blk_drew ?_ | refine blk_alloc ?_ _)); exact BK561.out) hb); have n3_ := Aside0.mk (below_step (by repeat (first | (with_reducible first | exact HB.out | apply below_alloc | apply pw_below_drewN | apply below_drew1 | refine below_set ?_ GE561.out) | exact HB.out)) hb); clear HO567; clear BK561; clear HB; have HO567 := n0_; have HO571 := n1_; have BK561 := n2_; have HB := n3_; clear n0_ n1_ n2_ n3_; (try clear hb); (try clear hb2); (try clear hk); (try clear hi); (try clear ho0); have hcz23_0 : w22.cell? ⟨gb561, 0, none⟩ = some (.int .i64 a0_0) := (blk_cell BK561.out 0).trans rfl; have hcz23_1 : w22.cell? ⟨gb561, 1, none⟩ = some (.string a0_1) := (blk_cell BK561.out 1).trans rfl; have hcz23_2 : w22.cell? ⟨gb561, 2, none⟩ = some (.int .i64 a0_2) := (blk_cell BK561.out 2).trans rfl; have hcz23_3 : w22.cell? ⟨gb561, 3, none⟩ = some (.slice A0_3 l0_3.length c0_3) := (blk_cell BK561.out 3).trans rfl; have hfz23_0 := blk_frozen BK561.out 0; have hfz23_1 := blk_frozen BK561.out 1; have hfz23_2 := blk_frozen BK561.out 2; have hfz23_3 := blk_frozen BK561.out 3) | (go_at_call 39; (with_reducible refine (position_First.calls kj1 a0_0 a0_1 a0_2 _ _ l0_3 t573 t576 _ ?side1 ?side2 A16.out).mono ?_); (case side1 => repeat (first | exact (Kd.C_below HR0_3.out HB.out) | (with_reducible refine Kd.C_alloc ?_ _) | (with_reducible refine Kd.C_drewN ?_ _) | (with_reducible refine Kd.C_drew ?_))); (case side2 => exact HC0_3.out); rintro e w24 ⟨v574, rfl, ho0, hb⟩; have n0_ := Aside0.mk (Kd.N_below (by (with_reducible repeat (first | apply Kd.N_alloc | apply Kd.N_drewN | apply Kd.N_drew)); exact HO567.out) hb); have n1_ := Aside0.mk (Kd.N_below (by (with_reducible repeat (first | apply Kd.N_alloc | apply Kd.N_drewN | apply Kd.N_drew)); exact HO571.out) hb); have n2_ := Aside0.mk (Kd.V_lower (Kd.V_mono (ok' := fun k_ => some k_ ≠ (v566 : Value).ownBlock ∧ some k_ ≠ (v570 : Value).ownBlock ∧ k_ ≠ gb561) ho0 (fun k_ hk_ => ⟨(Kd.fresh' (Kd.N_lt (by (with_reducible repeat (first | apply Kd.N_alloc | apply Kd.N_drewN | apply Kd.N_drew)); exact HO567.out)) k_ hk_), (Kd.fresh' (Kd.N_lt (by (with_reducible repeat (first | apply Kd.N_alloc | apply Kd.N_drewN | apply Kd.N_drew)); exact HO571.out)) k_ hk_), (Kd.freshB (g := gb561) (o := .cells #[.int .i64 a0_0, .string a0_1, .int .i64 a0_2, .slice A0_3 l0_3.length c0_3] 36 (0, 0)) (by (with_reducible repeat (first | refine blk_drewN ?_ _ | refine blk_drew ?_ | refine blk_alloc ?_ _)); exact BK561.out) k_ hk_)⟩)) (below_size (by repeat (first | (with_reducible first | exact HB.out | apply below_alloc | apply pw_below_drewN | apply below_drew1 | refine below_set ?_ GE561.out) | exact HB.out)))); have n3_ := Aside0.mk (blk_below (g := gb561) (o := .cells #[.int .i64 a0_0, .string a0_1, .int .i64 a0_2, .slice A0_3 l0_3.length c0_3] 36 (0, 0)) (by (with_reducible repeat (first | refine blk_drewN ?_ _ | refine blk_drew ?_ | refine blk_alloc ?_ _)); exact BK561.out) hb); have n4_ := Aside0.mk (below_step (by repeat (first | (with_reducible first | exact HB.out | apply below_alloc | apply pw_below_drewN | apply below_drew1 | refine below_set ?_ GE561.out) | exact HB.out)) hb); clear HO567; clear HO571; clear BK561; clear HB; have HO567 := n0_; have HO571 := n1_; have HO575 := n2_; have BK561 := n3_; have HB := n4_; clear n0_ n1_ n2_ n3_ n4_; (try clear hb); (try clear hb2); (try clear hk); (try clear hi); (try clear ho0); have hcz25_0 : w24.cell? ⟨gb561, 0, none⟩ = some (.int .i64 a0_0) := (blk_cell BK561.out 0).trans rfl; have hcz25_1 : w24.cell? ⟨gb561, 1, none⟩ = some (.string a0_1) := (blk_cell BK561.out 1).trans rfl; have hcz25_2 : w24.cell? ⟨gb561, 2, none⟩ = some (.int .i64 a0_2) := (blk_cell BK561.out 2).trans rfl; have hcz25_3 : w24.cell? ⟨gb561, 3, none⟩ = some (.slice A0_3 l0_3.length c0_3) := (blk_cell BK561.out 3).trans rfl; have hfz25_0 := blk_frozen BK561.out 0; have hfz25_1 := blk_frozen BK561.out 1; have hfz25_2 := blk_frozen BK561.out 2; have hfz25_3 := blk_frozen BK561.out 3) | (go_at_call 40; (with_reducible refine (position_Last.calls kj1 a0_0 a0_1 a0_2 _ _ l0_3 t577 t580 _ ?side1 ?side2 A17.out).mono ?_); (case side1 => repeat (first | exact (Kd.C_below HR0_3.out HB.out) | (with_reducible refine Kd.C_alloc ?_ _) | (with_reducible refine Kd.C_drewN ?_ _) | (with_reducible refine Kd.C_drew ?_))); (case side2 => exact HC0_3.out); rintro e w26 ⟨v578, rfl, ho0, hb⟩; have n0_ := Aside0.mk (Kd.N_below (by (with_reducible repeat (first | apply Kd.N_alloc | apply Kd.N_drewN | apply Kd.N_drew)); exact HO567.out) hb); have n1_ := Aside0.mk (Kd.N_below (by (with_reducible repeat (first | apply Kd.N_alloc | apply Kd.N_drewN | apply Kd.N_drew)); exact HO571.out) hb); have n2_ := Aside0.mk (Kd.V_below (by (with_reducible repeat (first | apply Kd.V_alloc | apply Kd.V_drewN | apply Kd.V_drew)); exact HO575.out) hb); have n3_ := Aside0.mk (Kd.V_lower (Kd.V_mono (ok' := fun k_ => some k_ ≠ (v566 : Value).ownBlock ∧ some k_ ≠ (v570 : Value).ownBlock ∧ k_ ≠ gb561) ho0 (fun k_ hk_ => ⟨(Kd.fresh' (Kd.N_lt (by (with_reducible repeat (first | apply Kd.N_alloc | apply Kd.N_drewN | apply Kd.N_drew)); exact HO567.out)) k_ hk_), (Kd.fresh' (Kd.N_lt (by (with_reducible repeat (first | apply Kd.N_alloc | apply Kd.N_drewN | apply Kd.N_drew)); exact HO571.out)) k_ hk_), (Kd.freshB (g := gb561) (o := .cells #[.int .i64 a0_0, .string a0_1, .int .i64 a0_2, .slice A0_3 l0_3.length c0_3] 36 (0, 0)) (by (with_reducible repeat (first | refine blk_drewN ?_ _ | refine blk_drew ?_ | refine blk_alloc ?_ _)); exact BK561.out) k_ hk_)⟩)) (below_size (by repeat (first | (with_reducible first | exact HB.out | apply below_alloc | apply pw_below_drewN | apply below_drew1 | refine below_set ?_ GE561.out) | exact HB.out)))); have n4_ := Aside0.mk (blk_below (g := gb561) (o := .cells #[.int .i64 a0_0, .string a0_1, .int .i64 a0_2, .slice A0_3 l0_3.length c0_3] 36 (0, 0)) (by (with_reducible repeat (first | refine blk_drewN ?_ _ | refine blk_drew ?_ | refine blk_alloc ?_ _)); exact BK561.out) hb); have n5_ := Aside0.mk (below_step (by repeat (first | (with_reducible first | exact HB.out | apply below_alloc | apply pw_below_drewN | apply below_drew1 | refine below_set ?_ GE561.out) | exact HB.out)) hb); clear HO567; clear HO571; clear HO575; clear BK561; clear HB; have HO567 := n0_; have HO571 := n1_; have HO575 := n2_; have HO579 := n3_; have BK561 := n4_; have HB := n5_; clear n0_ n1_ n2_ n3_ n4_ n5_; (try clear hb); (try clear hb2); (try clear hk); (try clear hi); (try clear ho0))); go_upto_region 7 with (first | (go_at_call 37; (with_reducible refine (position_All.calls kj1 a0_0 a0_1 a0_2 _ _ l0_3 t565 t568 _ ?side1 ?side2 A14.out).mono ?_); (case side1 => repeat (first | exact (Kd.C_below HR0_3.out HB.out) | (with_reducible refine Kd.C_alloc ?_ _) | (with_reducible refine Kd.C_drewN ?_ _) | (with_reducible refine Kd.C_drew ?_))); (case side2 => exact HC0_3.out); rintro e w20 ⟨v566, rfl, ho0, hb⟩; have n0_ := Aside0.mk (Kd.N_lower (Kd.N_mono (ok' := fun k_ => k_ ≠ gb561) ho0 (fun k_ hk_ => (Kd.freshB (g := gb561) (o := .cells #[.int .i64 a0_0, .string a0_1, .int .i64 a0_2, .slice A0_3 l0_3.length c0_3] 36 (0, 0)) (by (with_reducible repeat (first | refine blk_drewN ?_ _ | refine blk_drew ?_ | refine blk_alloc ?_ _)); exact BK561.out) k_ hk_))) (below_size (by repeat (first | (with_reducible first | exact HB.out | apply below_alloc | apply pw_below_drewN | apply below_drew1 | refine below_set ?_ GE561.out) | exact HB.out)))); have n1_ := Aside0.mk (blk_below (g := gb561) (o := .cells #[.int .i64 a0_0, .string a0_1, .int .i64 a0_2, .slice A0_3 l0_3.length c0_3] 36 (0, 0)) (by (with_reducible repeat (first | refine blk_drewN ?_ _ | refine blk_drew ?_ | refine blk_alloc ?_ _)); exact BK561.out) hb); have n2_ := Aside0.mk (below_step (by repeat (first | (with_reducible first | exact HB.out | apply below_alloc | apply pw_below_drewN | apply below_drew1 | refine below_set ?_ GE561.out) | exact HB.out)) hb); clear BK561; clear HB; have HO567 := n0_; have BK561 := n1_; have HB := n2_; clear n0_ n1_ n2_; (try clear hb); (try clear hb2); (try clear hk); (try clear hi); (try clear ho0); have hcz21_0 : w20.cell? ⟨gb561, 0, none⟩ = some (.int .i64 a0_0) := (blk_cell BK561.out 0).trans rfl; have hcz21_1 : w20.cell? ⟨gb561, 1, none⟩ = some (.string a0_1) := (blk_cell BK561.out 1).trans rfl; have hcz21_2 : w20.cell? ⟨gb561, 2, none⟩ = some (.int .i64 a0_2) := (blk_cell BK561.out 2).trans rfl; have hcz21_3 : w20.cell? ⟨gb561, 3, none⟩ = some (.slice A0_3 l0_3.length c0_3) := (blk_cell BK561.out 3).trans rfl; have hfz21_0 := blk_frozen BK561.out 0; have hfz21_1 := blk_frozen BK561.out 1; have hfz21_2 := blk_frozen BK561.out 2; have hfz21_3 := blk_frozen BK561.out 3) | (go_at_call 38; (with_reducible refine (vinculumref10_All.calls kj1 a0_0 a0_1 a0_2 _ _ l0_3 t569 t572 _ ?side1 ?side2 A15.out).mono ?_); (case side1 => repeat (first | exact (Kd.C_below HR0_3.out HB.out) | (with_reducible refine Kd.C_alloc ?_ _) | (with_reducible refine Kd.C_drewN ?_ _) | (with_reducible refine Kd.C_drew ?_))); (case side2 => exact HC0_3.out); rintro e w22 ⟨v570, rfl, ho0, hb⟩; have n0_ := Aside0.mk (Kd.N_elder' (by (with_reducible repeat (first | apply Kd.N_alloc | apply Kd.N_drewN | apply Kd.N_drew)); exact HO567.out) (Kd.N_base ho0) hb); have n1_ := Aside0.mk (Kd.N_lower (Kd.N_mono (ok' := fun k_ => some k_ ≠ (v566 : Value).ownBlock ∧ k_ ≠ gb561) ho0 (fun k_ hk_ => ⟨(Kd.fresh' (Kd.N_lt (by (with_reducible repeat (first | apply Kd.N_alloc | apply Kd.N_drewN | apply Kd.N_drew)); exact HO567.out)) k_ hk_), (Kd.freshB (g := gb561) (o := .cells #[.int .i64 a0_0, .string a0_1, .int .i64 a0_2, .slice A0_3 l0_3.length c0_3] 36 (0, 0)) (by (with_reducible repeat (first | refine blk_drewN ?_ _ | refine blk_drew ?_ | refine blk_alloc ?_ _)); exact BK561.out) k_ hk_)⟩)) (below_size (by repeat (first | (with_reducible first | exact HB.out | apply below_alloc | apply pw_below_drewN | apply below_drew1 | refine below_set ?_ GE561.out) | exact HB.out)))); have n2_ := Aside0.mk (blk_below (g := gb561) (o := .cells #[.int .i64 a0_0, .string a0_1, .int .i64 a0_2, .slice A0_3 l0_3.length c0_3] 36 (0, 0)) (by (with_reducible repeat (first | refine blk_drewN ?_ _ | refine blk_drew ?_ | refine blk_alloc ?_ _)); exact BK561.out) hb); have n3_ := Aside0.mk (below_step (by repeat (first | (with_reducible first | exact HB.out | apply below_alloc | apply pw_below_drewN | apply below_drew1 | refine below_set ?_ GE561.out) | exact HB.out)) hb); clear HO567; clear BK561; clear HB; have HO567 := n0_; have HO571 := n1_; have BK561 := n2_; have HB := n3_; clear n0_ n1_ n2_ n3_; (try clear hb); (try clear hb2); (try clear hk); (try clear hi); (try clear ho0); have hcz23_0 : w22.cell? ⟨gb561, 0, none⟩ = some (.int .i64 a0_0) := (blk_cell BK561.out 0).trans rfl; have hcz23_1 : w22.cell? ⟨gb561, 1, none⟩ = some (.string a0_1) := (blk_cell BK561.out 1).trans rfl; have hcz23_2 : w22.cell? ⟨gb561, 2, none⟩ = some (.int .i64 a0_2) := (blk_cell BK561.out 2).trans rfl; have hcz23_3 : w22.cell? ⟨gb561, 3, none⟩ = some (.slice A0_3 l0_3.length c0_3) := (blk_cell BK561.out 3).trans rfl; have hfz23_0 := blk_frozen BK561.out 0; have hfz23_1 := blk_frozen BK561.out 1; have hfz23_2 := blk_frozen BK561.out 2; have hfz23_3 := blk_frozen BK561.out 3) | (go_at_call 39; (with_reducible refine (position_First.calls kj1 a0_0 a0_1 a0_2 _ _ l0_3 t573 t576 _ ?side1 ?side2 A16.out).mono ?_); (case side1 => repeat (first | exact (Kd.C_below HR0_3.out HB.out) | (with_reducible refine Kd.C_alloc ?_ _) | (with_reducible refine Kd.C_drewN ?_ _) | (with_reducible refine Kd.C_drew ?_))); (case side2 => exact HC0_3.out); rintro e w24 ⟨v574, rfl, ho0, hb⟩; have n0_ := Aside0.mk (Kd.N_below (by (with_reducible repeat (first | apply Kd.N_alloc | apply Kd.N_drewN | apply Kd.N_drew)); exact HO567.out) hb); have n1_ := Aside0.mk (Kd.N_below (by (with_reducible repeat (first | apply Kd.N_alloc | apply Kd.N_drewN | apply Kd.N_drew)); exact HO571.out) hb); have n2_ := Aside0.mk (Kd.V_lower (Kd.V_mono (ok' := fun k_ => some k_ ≠ (v566 : Value).ownBlock ∧ some k_ ≠ (v570 : Value).ownBlock ∧ k_ ≠ gb561) ho0 (fun k_ hk_ => ⟨(Kd.fresh' (Kd.N_lt (by (with_reducible repeat (first | apply Kd.N_alloc | apply Kd.N_drewN | apply Kd.N_drew)); exact HO567.out)) k_ hk_), (Kd.fresh' (Kd.N_lt (by (with_reducible repeat (first | apply Kd.N_alloc | apply Kd.N_drewN | apply Kd.N_drew)); exact HO571.out)) k_ hk_), (Kd.freshB (g := gb561) (o := .cells #[.int .i64 a0_0, .string a0_1, .int .i64 a0_2, .slice A0_3 l0_3.length c0_3] 36 (0, 0)) (by (with_reducible repeat (first | refine blk_drewN ?_ _ | refine blk_drew ?_ | refine blk_alloc ?_ _)); exact BK561.out) k_ hk_)⟩)) (below_size (by repeat (first | (with_reducible first | exact HB.out | apply below_alloc | apply pw_below_drewN | apply below_drew1 | refine below_set ?_ GE561.out) | exact HB.out)))); have n3_ := Aside0.mk (blk_below (g := gb561) (o := .cells #[.int .i64 a0_0, .string a0_1, .int .i64 a0_2, .slice A0_3 l0_3.length c0_3] 36 (0, 0)) (by (with_reducible repeat (first | refine blk_drewN ?_ _ | refine blk_drew ?_ | refine blk_alloc ?_ _)); exact BK561.out) hb); have n4_ := Aside0.mk (below_step (by repeat (first | (with_reducible first | exact HB.out | apply below_alloc | apply pw_below_drewN | apply below_drew1 | refine below_set ?_ GE561.out) | exact HB.out)) hb); clear HO567; clear HO571; clear BK561; clear HB; have HO567 := n0_; have HO571 := n1_; have HO575 := n2_; have BK561 := n3_; have HB := n4_; clear n0_ n1_ n2_ n3_ n4_; (try clear hb); (try clear hb2); (try clear hk); (try clear hi); (try clear ho0); have hcz25_0 : w24.cell? ⟨gb561, 0, none⟩ = some (.int .i64 a0_0) := (blk_cell BK561.out 0).trans rfl; have hcz25_1 : w24.cell? ⟨gb561, 1, none⟩ = some (.string a0_1) := (blk_cell BK561.out 1).trans rfl; have hcz25_2 : w24.cell? ⟨gb561, 2, none⟩ = some (.int .i64 a0_2) := (blk_cell BK561.out 2).trans rfl; have hcz25_3 : w24.cell? ⟨gb561, 3, none⟩ = some (.slice A0_3 l0_3.length c0_3) := (blk_cell BK561.out 3).trans rfl; have hfz25_0 := blk_frozen BK561.out 0; have hfz25_1 := blk_frozen BK561.out 1; have hfz25_2 := blk_frozen BK561.out 2; have hfz25_3 := blk_frozen BK561.out 3) | (go_at_call 40; (with_reducible refine (position_Last.calls kj1 a0_0 a0_1 a0_2 _ _ l0_3 t577 t580 _ ?side1 ?side2 A17.out).mono ?_); (case side1 => repeat (first | exact (Kd.C_below HR0_3.out HB.out) | (with_reducible refine Kd.C_alloc ?_ _) | (with_reducible refine Kd.C_drewN ?_ _) | (with_reducible refine Kd.C_drew ?_))); (case side2 => exact HC0_3.out); rintro e w26 ⟨v578, rfl, ho0, hb⟩; have n0_ := Aside0.mk (Kd.N_below (by (with_reducible repeat (first | apply Kd.N_alloc | apply Kd.N_drewN | apply Kd.N_drew)); exact HO567.out) hb); have n1_ := Aside0.mk (Kd.N_below (by (with_reducible repeat (first | apply Kd.N_alloc | apply Kd.N_drewN | apply Kd.N_drew)); exact HO571.out) hb); have n2_ := Aside0.mk (Kd.V_below (by (with_reducible repeat (first | apply Kd.V_alloc | apply Kd.V_drewN | apply Kd.V_drew)); exact HO575.out) hb); have n3_ := Aside0.mk (Kd.V_lower (Kd.V_mono (ok' := fun k_ => some k_ ≠ (v566 : Value).ownBlock ∧ some k_ ≠ (v570 : Value).ownBlock ∧ k_ ≠ gb561) ho0 (fun k_ hk_ => ⟨(Kd.fresh' (Kd.N_lt (by (with_reducible repeat (first | apply Kd.N_alloc | apply Kd.N_drewN | apply Kd.N_drew)); exact HO567.out)) k_ hk_), (Kd.fresh' (Kd.N_lt (by (with_reducible repeat (first | apply Kd.N_alloc | apply Kd.N_drewN | apply Kd.N_drew)); exact HO571.out)) k_ hk_), (Kd.freshB (g := gb561) (o := .cells #[.int .i64 a0_0, .string a0_1, .int .i64 a0_2, .slice A0_3 l0_3.length c0_3] 36 (0, 0)) (by (with_reducible repeat (first | refine blk_drewN ?_ _ | refine blk_drew ?_ | refine blk_alloc ?_ _)); exact BK561.out) k_ hk_)⟩)) (below_size (by repeat (first | (with_reducible first | exact HB.out | apply below_alloc | apply pw_below_drewN | apply below_drew1 | refine below_set ?_ GE561.out) | exact HB.out)))); have n4_ := Aside0.mk (blk_below (g := gb561) (o := .cells #[.int .i64 a0_0, .string a0_1, .int .i64 a0_2, .slice A0_3 l0_3.length c0_3] 36 (0, 0)) (by (with_reducible repeat (first | refine blk_drewN ?_ _ | refine blk_drew ?_ | refine blk_alloc ?_ _)); exact BK561.out) hb); have n5_ := Aside0.mk (below_step (by repeat (first | (with_reducible first | exact HB.out | apply below_alloc | apply pw_below_drewN | apply below_drew1 | refine below_set ?_ GE561.out) | exact HB.out)) hb); clear HO567; clear HO571; clear HO575; clear BK561; clear HB; have HO567 := n0_; have HO571 := n1_; have HO575 := n2_; have HO579 := n3_; have BK561 := n4_; have HB := n5_; clear n0_ n1_ n2_ n3_ n4_ n5_; (try clear hb); (try clear hb2); (try clear hk); (try clear hi); (try clear ho0))))
        (try simp only [Act.put, List.setIfInBounds_toArray, List.set_cons_zero, List.set_cons_succ])
        go_cut [59] (fun v59 wc => ∃ (kq : Nat) (x59_17 : Bool), v59 = .bool x59_17 ∧ Aside0 (vinculumlaw10_PositionAll.j1 kq t565 t569 t572 t573 t577 x59_17 = some r) ∧ Aside0 (kq ≤ kj1) ∧ Aside0 (Kd.N (Kd.slice 3 (Kd.int .i64)) 26 wc w.heap.size (fun k_ => some k_ ≠ (v570 : Value).ownBlock ∧ k_ ≠ gb561) v566 t565) ∧ Aside0 (Kd.N (Kd.slice 3 (Kd.int .i64)) 26 wc w.heap.size (fun k_ => some k_ ≠ (v566 : Value).ownBlock ∧ k_ ≠ gb561) v570 t569) ∧ Aside0 (Kd.V (Kd.int .i64) 3 wc w.heap.size (fun k_ => some k_ ≠ (v566 : Value).ownBlock ∧ some k_ ≠ (v570 : Value).ownBlock ∧ k_ ≠ gb561) v574 t573) ∧ Aside0 (Kd.V (Kd.int .i64) 3 wc w.heap.size (fun k_ => some k_ ≠ (v566 : Value).ownBlock ∧ some k_ ≠ (v570 : Value).ownBlock ∧ k_ ≠ gb561) v578 t577) ∧ Aside0 (wc.heap[gb561]? = some (.cells #[.int .i64 a0_0, .string a0_1, .int .i64 a0_2, (.slice A0_3 l0_3.length c0_3)] 36 (0, 0))) ∧ Aside0 (Below w.heap.size w wc))
        case first =>
          have H := HC18.out
          clear HC18
          by_cases c27 : t568 = t572
          · rw [if_pos c27] at H
            have c27b0 : (t568 == t572) = true := beq_iff_eq.mpr c27
            have c27b1 : (t568 != t572) = false := bne_eq_false_iff_eq.mpr c27
            clear c27
            (first | rw [c27b0] | (simp only [i64_w, i32_w]; rw [c27b0]) | skip)
            by_cases c28 : t576 = t572
            · rw [if_pos c28] at H
              have c28b0 : (t576 == t572) = true := beq_iff_eq.mpr c28
              have c28b1 : (t576 != t572) = false := bne_eq_false_iff_eq.mpr c28
              clear c28
              by_cases c29 : t580 = t572
              · rw [if_pos c29] at H
                have c29b0 : (t580 == t572) = true := beq_iff_eq.mpr c29
                have c29b1 : (t580 != t572) = false := bne_eq_false_iff_eq.mpr c29
                clear c29
                have H' := Aside0.mk H
                clear H
                obtain ⟨Ao30, co30, eo30⟩ := Kd.N_slice HO567.out
                subst eo30
                obtain ⟨Ao31, co31, eo31⟩ := Kd.N_slice HO571.out
                subst eo31
                go_wp2
                repeat (go_quiet (fail); try go_wp2)
                go_meet
                case rel => exact ⟨_, (((t565.length : Int) != (t569.length : Int))), (by first | rfl | (simp; done) | (simp [*]; done)), H', ⟨by have := HJ1.out; first | omega | exact Nat.le_refl _⟩, ⟨by (with_reducible repeat (first | apply Kd.N_alloc | apply Kd.N_drewN | apply Kd.N_drew)); exact Kd.N_mono HO567.out (fun _ hk => ⟨hk.2, hk.1⟩)⟩, ⟨by (with_reducible repeat (first | apply Kd.N_alloc | apply Kd.N_drewN | apply Kd.N_drew)); exact HO571.out⟩, ⟨by (with_reducible repeat (first | apply Kd.V_alloc | apply Kd.V_drewN | apply Kd.V_drew)); exact HO575.out⟩, ⟨by (with_reducible repeat (first | apply Kd.V_alloc | apply Kd.V_drewN | apply Kd.V_drew)); exact HO579.out⟩, ⟨by (with_reducible repeat (first | refine blk_drewN ?_ _ | refine blk_drew ?_ | refine blk_alloc ?_ _)); exact BK561.out⟩, ⟨by repeat (first | (with_reducible first | exact HB.out | apply below_alloc | apply pw_below_drewN | apply below_drew1 | refine below_set ?_ GE561.out) | exact HB.out)⟩⟩
              · rw [if_neg c29] at H
                have c29b0 : (t580 == t572) = false := beq_eq_false_iff_ne.mpr c29
                have c29b1 : (t580 != t572) = true := bne_iff_ne.mpr c29
                have H' := Aside0.mk H
                clear H
                go_wp2
                repeat (go_quiet (fail); try go_wp2)
                go_meet
                case rel => exact ⟨_, (true), (by first | rfl | (simp; done) | (simp [*]; done)), H', ⟨by have := HJ1.out; first | omega | exact Nat.le_refl _⟩, ⟨by (with_reducible repeat (first | apply Kd.N_alloc | apply Kd.N_drewN | apply Kd.N_drew)); exact Kd.N_mono HO567.out (fun _ hk => ⟨hk.2, hk.1⟩)⟩, ⟨by (with_reducible repeat (first | apply Kd.N_alloc | apply Kd.N_drewN | apply Kd.N_drew)); exact HO571.out⟩, ⟨by (with_reducible repeat (first | apply Kd.V_alloc | apply Kd.V_drewN | apply Kd.V_drew)); exact HO575.out⟩, ⟨by (with_reducible repeat (first | apply Kd.V_alloc | apply Kd.V_drewN | apply Kd.V_drew)); exact HO579.out⟩, ⟨by (with_reducible repeat (first | refine blk_drewN ?_ _ | refine blk_drew ?_ | refine blk_alloc ?_ _)); exact BK561.out⟩, ⟨by repeat (first | (with_reducible first | exact HB.out | apply below_alloc | apply pw_below_drewN | apply below_drew1 | refine below_set ?_ GE561.out) | exact HB.out)⟩⟩
            · rw [if_neg c28] at H
              have c28b0 : (t576 == t572) = false := beq_eq_false_iff_ne.mpr c28
              have c28b1 : (t576 != t572) = true := bne_iff_ne.mpr c28
              have H' := Aside0.mk H
              clear H
              go_wp2
              repeat (go_quiet (fail); try go_wp2)
              go_meet
              case rel => exact ⟨_, (true), (by first | rfl | (simp; done) | (simp [*]; done)), H', ⟨by have := HJ1.out; first | omega | exact Nat.le_refl _⟩, ⟨by (with_reducible repeat (first | apply Kd.N_alloc | apply Kd.N_drewN | apply Kd.N_drew)); exact Kd.N_mono HO567.out (fun _ hk => ⟨hk.2, hk.1⟩)⟩, ⟨by (with_reducible repeat (first | apply Kd.N_alloc | apply Kd.N_drewN | apply Kd.N_drew)); exact HO571.out⟩, ⟨by (with_reducible repeat (first | apply Kd.V_alloc | apply Kd.V_drewN | apply Kd.V_drew)); exact HO575.out⟩, ⟨by (with_reducible repeat (first | apply Kd.V_alloc | apply Kd.V_drewN | apply Kd.V_drew)); exact HO579.out⟩, ⟨by (with_reducible repeat (first | refine blk_drewN ?_ _ | refine blk_drew ?_ | refine blk_alloc ?_ _)); exact BK561.out⟩, ⟨by repeat (first | (with_reducible first | exact HB.out | apply below_alloc | apply pw_below_drewN | apply below_drew1 | refine below_set ?_ GE561.out) | exact HB.out)⟩⟩
          · rw [if_neg c27] at H
            have c27b0 : (t568 == t572) = false := beq_eq_false_iff_ne.mpr c27
            have c27b1 : (t568 != t572) = true := bne_iff_ne.mpr c27
            (first | rw [c27b0] | (simp only [i64_w, i32_w]; rw [c27b0]) | skip)
            have H' := Aside0.mk H
            clear H
            go_wp2
            repeat (go_quiet (fail); try go_wp2)
            go_meet
            case rel => exact ⟨_, (true), (by first | rfl | (simp; done) | (simp [*]; done)), H', ⟨by have := HJ1.out; first | omega | exact Nat.le_refl _⟩, ⟨by (with_reducible repeat (first | apply Kd.N_alloc | apply Kd.N_drewN | apply Kd.N_drew)); exact Kd.N_mono HO567.out (fun _ hk => ⟨hk.2, hk.1⟩)⟩, ⟨by (with_reducible repeat (first | apply Kd.N_alloc | apply Kd.N_drewN | apply Kd.N_drew)); exact HO571.out⟩, ⟨by (with_reducible repeat (first | apply Kd.V_alloc | apply Kd.V_drewN | apply Kd.V_drew)); exact HO575.out⟩, ⟨by (with_reducible repeat (first | apply Kd.V_alloc | apply Kd.V_drewN | apply Kd.V_drew)); exact HO579.out⟩, ⟨by (with_reducible repeat (first | refine blk_drewN ?_ _ | refine blk_drew ?_ | refine blk_alloc ?_ _)); exact BK561.out⟩, ⟨by repeat (first | (with_reducible first | exact HB.out | apply below_alloc | apply pw_below_drewN | apply below_drew1 | refine below_set ?_ GE561.out) | exact HB.out)⟩⟩
        case rest =>
          clear HC18
          try clear c1
          try clear c2
          try clear p2
          try clear c5
          try clear c9
          try clear c11
          try clear c27
          try clear c27b0
          try clear c27b1
          try clear c28
          try clear c28b0
          try clear c28b1
          try clear c29
          try clear c29b0
          try clear c29b1
          try clear hcz19_0
          try clear hcz19_1
          try clear hcz19_2
          try clear hcz19_3
          try clear hcz21_0
          try clear hcz21_1
          try clear hcz21_2
          try clear hcz21_3
          try clear hcz23_0
          try clear hcz23_1
          try clear hcz23_2
          try clear hcz23_3
          try clear hcz25_0
          try clear hcz25_1
          try clear hcz25_2
          try clear hcz25_3
          try clear hcz8_0
          try clear hcz8_1
          try clear hcz8_2
          try clear hcz8_3
          try clear hfz19_0
          try clear hfz19_1
          try clear hfz19_2
          try clear hfz19_3
          try clear hfz21_0
          try clear hfz21_1
          try clear hfz21_2
          try clear hfz21_3
          try clear hfz23_0
          try clear hfz23_1
          try clear hfz23_2
          try clear hfz23_3
          try clear hfz25_0
          try clear hfz25_1
          try clear hfz25_2
          try clear hfz25_3
          try clear hfz8_0
          try clear hfz8_1
          try clear hfz8_2
          try clear hfz8_3
          try clear p2
          obtain ⟨kq, x59_17, rfl, HA, HJ17, HO_3, HO_5, HO_7, HO_9, BK561, HB⟩ := hcut
          cases kq with
          | zero => exact absurd HA.out (by simp [vinculumlaw10_PositionAll.j1])
          | succ kj17 =>
            have H := HA.out
            clear HA
            simp only [vinculumlaw10_PositionAll.j1] at H
            by_cases c32 : x59_17 = true
            · subst c32
              have H1 : (some false) = some r := by rw [if_pos rfl] at H; exact H
              clear H
              have H := H1
              clear H1
              obtain rfl := Option.some.inj H
              go_wp2
              repeat (go_quiet (fail); try go_wp2)
              go_ret
              exact ⟨by first | rfl | (simp [errW_none, errW_some] <;> rfl) | (simp [*, errW_none, errW_some] <;> rfl), by repeat (first | (with_reducible first | exact HB.out | apply below_alloc | apply pw_below_drewN | apply below_drew1 | refine below_set ?_ GE561.out) | exact HB.out)⟩
            · replace c32 := Bool.eq_false_iff.mpr c32
              subst c32
              have H1 : (vinculumlaw10_PositionAll.l0 kj17 t565 t569 t572 t573 t577 (t569.length : Int) 0) = some r := by rw [if_neg (show ¬ (false = true) by decide)] at H; exact H
              clear H
              have H := H1
              clear H1
              have H' := Aside0.mk H
              clear H
              obtain ⟨Ao33, co33, eo33⟩ := Kd.N_slice HO_5.out
              subst eo33
              go_wp2
              repeat (go_quiet (fail); try go_wp2)
              go_loopg [62] kj17 (fun kq v62 w' => ∃ (x62_3 : Int), v62 = .int .i64 x62_3 ∧ Aside0 (vinculumlaw10_PositionAll.l0 kq t565 t569 t572 t573 t577 (t569.length : Int) x62_3 = some r) ∧ Aside0 (kq ≤ kj17) ∧ Aside0 (Kd.N (Kd.slice 3 (Kd.int .i64)) 26 w' w.heap.size (fun k_ => some k_ ≠ ((.slice Ao33 t569.length co33) : Value).ownBlock ∧ k_ ≠ gb561) v566 t565) ∧ Aside0 (Kd.N (Kd.slice 3 (Kd.int .i64)) 26 w' w.heap.size (fun k_ => some k_ ≠ (v566 : Value).ownBlock ∧ k_ ≠ gb561) (.slice Ao33 t569.length co33) t569) ∧ Aside0 (Kd.V (Kd.int .i64) 3 w' w.heap.size (fun k_ => some k_ ≠ (v566 : Value).ownBlock ∧ some k_ ≠ ((.slice Ao33 t569.length co33) : Value).ownBlock ∧ k_ ≠ gb561) v574 t573) ∧ Aside0 (Kd.V (Kd.int .i64) 3 w' w.heap.size (fun k_ => some k_ ≠ (v566 : Value).ownBlock ∧ some k_ ≠ ((.slice Ao33 t569.length co33) : Value).ownBlock ∧ k_ ≠ gb561) v578 t577) ∧ Aside0 (w'.heap[gb561]? = some (.cells #[.int .i64 a0_0, .string a0_1, .int .i64 a0_2, (.slice A0_3 l0_3.length c0_3)] 36 (0, 0))) ∧ Aside0 (Below w.heap.size w w'))
              case atStart => exact ⟨(0), (by first | rfl | (simp; done) | (simp [*]; done)), H', ⟨Nat.le_refl _⟩, ⟨by (with_reducible repeat (first | apply Kd.N_alloc | apply Kd.N_drewN | apply Kd.N_drew)); exact HO_3.out⟩, ⟨by (with_reducible repeat (first | apply Kd.N_alloc | apply Kd.N_drewN | apply Kd.N_drew)); exact HO_5.out⟩, ⟨by (with_reducible repeat (first | apply Kd.V_alloc | apply Kd.V_drewN | apply Kd.V_drew)); exact HO_7.out⟩, ⟨by (with_reducible repeat (first | apply Kd.V_alloc | apply Kd.V_drewN | apply Kd.V_drew)); exact HO_9.out⟩, ⟨by (with_reducible repeat (first | refine blk_drewN ?_ _ | refine blk_drew ?_ | refine blk_alloc ?_ _)); exact BK561.out⟩, ⟨by repeat (first | (with_reducible first | exact HB.out | apply below_alloc | apply pw_below_drewN | apply below_drew1 | refine below_set ?_ GE561.out) | exact HB.out)⟩⟩
              case round =>
                clear H'
                try clear c1
                try clear c2
                try clear p2
                try clear c3
                try clear c5
                try clear c9
                try clear c11
                try clear c27
                try clear c27b0
                try clear c27b1
                try clear c28
                try clear c28b0
                try clear c28b1
                try clear c29
                try clear c29b0
                try clear c29b1
                try clear c32
                try clear hcz19_0
                try clear hcz19_1
                try clear hcz19_2
                try clear hcz19_3
                try clear hcz21_0
                try clear hcz21_1
                try clear hcz21_2
                try clear hcz21_3
                try clear hcz23_0
                try clear hcz23_1
                try clear hcz23_2
                try clear hcz23_3
                try clear hcz25_0
                try clear hcz25_1
                try clear hcz25_2
                try clear hcz25_3
                try clear hcz8_0
                try clear hcz8_1
                try clear hcz8_2
                try clear hcz8_3
                try clear hfz19_0
                try clear hfz19_1
                try clear hfz19_2
                try clear hfz19_3
                try clear hfz21_0
                try clear hfz21_1
                try clear hfz21_2
                try clear hfz21_3
                try clear hfz23_0
                try clear hfz23_1
                try clear hfz23_2
                try clear hfz23_3
                try clear hfz25_0
                try clear hfz25_1
                try clear hfz25_2
                try clear hfz25_3
                try clear hfz8_0
                try clear hfz8_1
                try clear hfz8_2
                try clear hfz8_3
                try clear p2
                obtain ⟨x62_3, rfl, HA, HK3, HO_3, HO_5, HO_7, HO_9, BK561, HB⟩ := hrel
                cases gk with
                | zero => exact absurd HA.out (by simp [vinculumlaw10_PositionAll.l0])
                | succ k3 =>
                  have H := HA.out
                  clear HA
                  simp only [vinculumlaw10_PositionAll.l0] at H
                  by_cases c34 : x62_3 < (t569.length : Int)
                  · rw [if_pos c34] at H
                    have c34b0 : decide (x62_3 < (t569.length : Int)) = true := decide_eq_true c34
                    clear c34
                    by_cases c35 : 0 ≤ x62_3
                    · rw [if_pos c35] at H
                      have c35b0 : decide (0 ≤ x62_3) = true := decide_eq_true c35
                      clear c35
                      by_cases c36 : x62_3 < (t565.length : Int)
                      · rw [if_pos c36] at H
                        have c36b0 : decide (x62_3 < (t565.length : Int)) = true := decide_eq_true c36
                        clear c36
                        by_cases c37 : x62_3 < (t569.length : Int)
                        · rw [if_pos c37] at H
                          have c37b0 : decide (x62_3 < (t569.length : Int)) = true := decide_eq_true c37
                          clear c37
                          replace H := Option.bind_eq_some_iff.mp H
                          obtain ⟨t583, A380, H⟩ := H
                          replace H : (if t583 = true then (vinculumlaw10_PositionAll.l0 k3 t565 t569 t572 t573 t577 (t569.length : Int) (wrap64 (x62_3 + 1))) else (some false)) = some r := H
                          have A38 := Aside0.mk A380
                          clear A380
                          by_cases c39 : t583 = true
                          · subst c39
                            have H1 : (vinculumlaw10_PositionAll.l0 k3 t565 t569 t572 t573 t577 (t569.length : Int) (wrap64 (x62_3 + 1))) = some r := by rw [if_pos rfl] at H; exact H
                            clear H
                            have H := H1
                            clear H1
                            have H' := Aside0.mk H
                            clear H
                            obtain ⟨Ao40, co40, eo40⟩ := Kd.N_slice HO_3.out
                            subst eo40
                            have p581 : 0 ≤ (x62_3 : Int) := of_decide_eq_true (by first | (with_reducible assumption) | assumption)
                            have q581 : x62_3 < (t565.length : Int) := of_decide_eq_true (by first | (with_reducible assumption) | assumption)
                            obtain ⟨ad581, A581_0, c581_0, e581, hx581_0, hl581_0, hi581_0⟩ := at_L5 (Kd.N_reads' HO_3.out).2.2 x62_3 p581 q581
                            cases e581
                            obtain ⟨ce581, hce581, hMe581, hcc581⟩ := Kd.N_get HO_3.out [] x62_3 p581 (by first | exact q581 | exact of_decide_eq_true (by first | (with_reducible assumption) | assumption) | (have e_ := (Kd.N_reads' HO_3.out).1; omega))
                            obtain ⟨ua581_0, uc581_0, rfl, ul581_0, ge581_0⟩ := Kd.FK_slice_open hMe581
                            have hv581_0 := hcc581 0 _ rfl
                            rw [Nat.add_zero, show ((Kd.slice 3 (Kd.int .i64))).sz = 1 from rfl, Nat.mul_one] at hv581_0
                            replace hv581_0 := Option.some.inj (hv581_0.symm.trans hx581_0)
                            injection hv581_0 with hva_ hvn_ hvc_
                            rw [hva_] at ge581_0
                            rw [hvc_] at ul581_0
                            have HL581_0 := Aside0.mk (show Kd.V (Kd.int .i64) 3 _ w.heap.size _ _ (rd_L5 t565 x62_3) from Kd.V_mk ul581_0 ge581_0)
                            clear hva_ hvn_ hvc_ ge581_0 ul581_0
                            clear hcc581 hce581
                            have HR581_0 := Aside0.mk hi581_0
                            have HC581_0 := Aside0.mk hl581_0
                            clear hi581_0 hl581_0
                            replace p581 := eq_true p581
                            replace q581 := eq_true q581
                            have p582 : 0 ≤ (x62_3 : Int) := of_decide_eq_true (by first | (with_reducible assumption) | assumption)
                            have q582 : x62_3 < (t569.length : Int) := of_decide_eq_true (by first | (with_reducible assumption) | assumption)
                            obtain ⟨ad582, A582_0, c582_0, e582, hx582_0, hl582_0, hi582_0⟩ := at_L5 (Kd.N_reads' HO_5.out).2.2 x62_3 p582 q582
                            cases e582
                            obtain ⟨ce582, hce582, hMe582, hcc582⟩ := Kd.N_get HO_5.out [] x62_3 p582 (by first | exact q582 | exact of_decide_eq_true (by first | (with_reducible assumption) | assumption) | (have e_ := (Kd.N_reads' HO_5.out).1; omega))
                            obtain ⟨ua582_0, uc582_0, rfl, ul582_0, ge582_0⟩ := Kd.FK_slice_open hMe582
                            have hv582_0 := hcc582 0 _ rfl
                            rw [Nat.add_zero, show ((Kd.slice 3 (Kd.int .i64))).sz = 1 from rfl, Nat.mul_one] at hv582_0
                            replace hv582_0 := Option.some.inj (hv582_0.symm.trans hx582_0)
                            injection hv582_0 with hva_ hvn_ hvc_
                            rw [hva_] at ge582_0
                            rw [hvc_] at ul582_0
                            have HL582_0 := Aside0.mk (show Kd.V (Kd.int .i64) 3 _ w.heap.size _ _ (rd_L5 t569 x62_3) from Kd.V_mk ul582_0 ge582_0)
                            clear hva_ hvn_ hvc_ ge582_0 ul582_0
                            clear hcc582 hce582
                            have HR582_0 := Aside0.mk hi582_0
                            have HC582_0 := Aside0.mk hl582_0
                            clear hi582_0 hl582_0
                            replace p582 := eq_true p582
                            replace q582 := eq_true q582
                            go_wp2_with (first | (go_at_call 31; (with_reducible refine (vinculumref10_Same.calls k3 _ _ (rd_L5 t565 x62_3) _ _ (rd_L5 t569 x62_3) true _ ?side1 ?side2 ?side3 ?side4 A38.out).mono ?_); (case side1 => repeat (first | exact (by repeat (first | (with_reducible exact HR581_0.out) | (with_reducible refine Kd.C_alloc ?_ _) | (with_reducible refine Kd.C_drewN ?_ _) | (with_reducible refine Kd.C_drew ?_) | exact HR581_0.out)) | (with_reducible refine Kd.C_alloc ?_ _) | (with_reducible refine Kd.C_drewN ?_ _) | (with_reducible refine Kd.C_drew ?_))); (case side2 => exact HC581_0.out); (case side3 => repeat (first | exact (by repeat (first | (with_reducible exact HR582_0.out) | (with_reducible refine Kd.C_alloc ?_ _) | (with_reducible refine Kd.C_drewN ?_ _) | (with_reducible refine Kd.C_drew ?_) | exact HR582_0.out)) | (with_reducible refine Kd.C_alloc ?_ _) | (with_reducible refine Kd.C_drewN ?_ _) | (with_reducible refine Kd.C_drew ?_))); (case side4 => exact HC582_0.out); rintro e w' ⟨rfl, ⟨nd, rfl⟩⟩; (try first | exact ⟨rfl, _, World.drewN_drewN _ _ _⟩ | exact ⟨rfl, _, Eq.trans (World.drewN_drewN _ _ _) (congrArg (World.drewN _) (Nat.add_assoc _ _ _))⟩)))
                            repeat (go_quiet (first | (go_at_call 31; (with_reducible refine (vinculumref10_Same.calls k3 _ _ (rd_L5 t565 x62_3) _ _ (rd_L5 t569 x62_3) true _ ?side1 ?side2 ?side3 ?side4 A38.out).mono ?_); (case side1 => repeat (first | exact (by repeat (first | (with_reducible exact HR581_0.out) | (with_reducible refine Kd.C_alloc ?_ _) | (with_reducible refine Kd.C_drewN ?_ _) | (with_reducible refine Kd.C_drew ?_) | exact HR581_0.out)) | (with_reducible refine Kd.C_alloc ?_ _) | (with_reducible refine Kd.C_drewN ?_ _) | (with_reducible refine Kd.C_drew ?_))); (case side2 => exact HC581_0.out); (case side3 => repeat (first | exact (by repeat (first | (with_reducible exact HR582_0.out) | (with_reducible refine Kd.C_alloc ?_ _) | (with_reducible refine Kd.C_drewN ?_ _) | (with_reducible refine Kd.C_drew ?_) | exact HR582_0.out)) | (with_reducible refine Kd.C_alloc ?_ _) | (with_reducible refine Kd.C_drewN ?_ _) | (with_reducible refine Kd.C_drew ?_))); (case side4 => exact HC582_0.out); rintro e w' ⟨rfl, ⟨nd, rfl⟩⟩; (try first | exact ⟨rfl, _, World.drewN_drewN _ _ _⟩ | exact ⟨rfl, _, Eq.trans (World.drewN_drewN _ _ _) (congrArg (World.drewN _) (Nat.add_assoc _ _ _))⟩))); try go_wp2_with (first | (go_at_call 31; (with_reducible refine (vinculumref10_Same.calls k3 _ _ (rd_L5 t565 x62_3) _ _ (rd_L5 t569 x62_3) true _ ?side1 ?side2 ?side3 ?side4 A38.out).mono ?_); (case side1 => repeat (first | exact (by repeat (first | (with_reducible exact HR581_0.out) | (with_reducible refine Kd.C_alloc ?_ _) | (with_reducible refine Kd.C_drewN ?_ _) | (with_reducible refine Kd.C_drew ?_) | exact HR581_0.out)) | (with_reducible refine Kd.C_alloc ?_ _) | (with_reducible refine Kd.C_drewN ?_ _) | (with_reducible refine Kd.C_drew ?_))); (case side2 => exact HC581_0.out); (case side3 => repeat (first | exact (by repeat (first | (with_reducible exact HR582_0.out) | (with_reducible refine Kd.C_alloc ?_ _) | (with_reducible refine Kd.C_drewN ?_ _) | (with_reducible refine Kd.C_drew ?_) | exact HR582_0.out)) | (with_reducible refine Kd.C_alloc ?_ _) | (with_reducible refine Kd.C_drewN ?_ _) | (with_reducible refine Kd.C_drew ?_))); (case side4 => exact HC582_0.out); rintro e w' ⟨rfl, ⟨nd, rfl⟩⟩; (try first | exact ⟨rfl, _, World.drewN_drewN _ _ _⟩ | exact ⟨rfl, _, Eq.trans (World.drewN_drewN _ _ _) (congrArg (World.drewN _) (Nat.add_assoc _ _ _))⟩))))
                            go_roundg k3
                            case measure => have := HJ1.out; have := HJ17.out; have := HK3.out; omega
                            case rel => exact ⟨(wrap64 (x62_3 + 1)), (by first | rfl | (simp; done) | (simp [*]; done)), H', ⟨by have := HJ1.out; have := HJ17.out; have := HK3.out; omega⟩, ⟨by (with_reducible repeat (first | apply Kd.N_alloc | apply Kd.N_drewN | apply Kd.N_drew)); exact HO_3.out⟩, ⟨by (with_reducible repeat (first | apply Kd.N_alloc | apply Kd.N_drewN | apply Kd.N_drew)); exact HO_5.out⟩, ⟨by (with_reducible repeat (first | apply Kd.V_alloc | apply Kd.V_drewN | apply Kd.V_drew)); exact HO_7.out⟩, ⟨by (with_reducible repeat (first | apply Kd.V_alloc | apply Kd.V_drewN | apply Kd.V_drew)); exact HO_9.out⟩, ⟨by (with_reducible repeat (first | refine blk_drewN ?_ _ | refine blk_drew ?_ | refine blk_alloc ?_ _)); exact BK561.out⟩, ⟨by repeat (first | (with_reducible first | exact HB.out | apply below_alloc | apply pw_below_drewN | apply below_drew1 | refine below_set ?_ GE561.out) | exact HB.out)⟩⟩
                          · replace c39 := Bool.eq_false_iff.mpr c39
                            subst c39
                            have H1 : (some false) = some r := by rw [if_neg (show ¬ (false = true) by decide)] at H; exact H
                            clear H
                            have H := H1
                            clear H1
                            obtain rfl := Option.some.inj H
                            obtain ⟨Ao41, co41, eo41⟩ := Kd.N_slice HO_3.out
                            subst eo41
                            have p581 : 0 ≤ (x62_3 : Int) := of_decide_eq_true (by first | (with_reducible assumption) | assumption)
                            have q581 : x62_3 < (t565.length : Int) := of_decide_eq_true (by first | (with_reducible assumption) | assumption)
                            obtain ⟨ad581, A581_0, c581_0, e581, hx581_0, hl581_0, hi581_0⟩ := at_L5 (Kd.N_reads' HO_3.out).2.2 x62_3 p581 q581
                            cases e581
                            obtain ⟨ce581, hce581, hMe581, hcc581⟩ := Kd.N_get HO_3.out [] x62_3 p581 (by first | exact q581 | exact of_decide_eq_true (by first | (with_reducible assumption) | assumption) | (have e_ := (Kd.N_reads' HO_3.out).1; omega))
                            obtain ⟨ua581_0, uc581_0, rfl, ul581_0, ge581_0⟩ := Kd.FK_slice_open hMe581
                            have hv581_0 := hcc581 0 _ rfl
                            rw [Nat.add_zero, show ((Kd.slice 3 (Kd.int .i64))).sz = 1 from rfl, Nat.mul_one] at hv581_0
                            replace hv581_0 := Option.some.inj (hv581_0.symm.trans hx581_0)
                            injection hv581_0 with hva_ hvn_ hvc_
                            rw [hva_] at ge581_0
                            rw [hvc_] at ul581_0
                            have HL581_0 := Aside0.mk (show Kd.V (Kd.int .i64) 3 _ w.heap.size _ _ (rd_L5 t565 x62_3) from Kd.V_mk ul581_0 ge581_0)
                            clear hva_ hvn_ hvc_ ge581_0 ul581_0
                            clear hcc581 hce581
                            have HR581_0 := Aside0.mk hi581_0
                            have HC581_0 := Aside0.mk hl581_0
                            clear hi581_0 hl581_0
                            replace p581 := eq_true p581
                            replace q581 := eq_true q581
                            have p582 : 0 ≤ (x62_3 : Int) := of_decide_eq_true (by first | (with_reducible assumption) | assumption)
                            have q582 : x62_3 < (t569.length : Int) := of_decide_eq_true (by first | (with_reducible assumption) | assumption)
                            obtain ⟨ad582, A582_0, c582_0, e582, hx582_0, hl582_0, hi582_0⟩ := at_L5 (Kd.N_reads' HO_5.out).2.2 x62_3 p582 q582
                            cases e582
                            obtain ⟨ce582, hce582, hMe582, hcc582⟩ := Kd.N_get HO_5.out [] x62_3 p582 (by first | exact q582 | exact of_decide_eq_true (by first | (with_reducible assumption) | assumption) | (have e_ := (Kd.N_reads' HO_5.out).1; omega))
                            obtain ⟨ua582_0, uc582_0, rfl, ul582_0, ge582_0⟩ := Kd.FK_slice_open hMe582
                            have hv582_0 := hcc582 0 _ rfl
                            rw [Nat.add_zero, show ((Kd.slice 3 (Kd.int .i64))).sz = 1 from rfl, Nat.mul_one] at hv582_0
                            replace hv582_0 := Option.some.inj (hv582_0.symm.trans hx582_0)
                            injection hv582_0 with hva_ hvn_ hvc_
                            rw [hva_] at ge582_0
                            rw [hvc_] at ul582_0
                            have HL582_0 := Aside0.mk (show Kd.V (Kd.int .i64) 3 _ w.heap.size _ _ (rd_L5 t569 x62_3) from Kd.V_mk ul582_0 ge582_0)
                            clear hva_ hvn_ hvc_ ge582_0 ul582_0
                            clear hcc582 hce582
                            have HR582_0 := Aside0.mk hi582_0
                            have HC582_0 := Aside0.mk hl582_0
                            clear hi582_0 hl582_0
                            replace p582 := eq_true p582
                            replace q582 := eq_true q582
                            go_wp2_with (first | (go_at_call 31; (with_reducible refine (vinculumref10_Same.calls k3 _ _ (rd_L5 t565 x62_3) _ _ (rd_L5 t569 x62_3) false _ ?side1 ?side2 ?side3 ?side4 A38.out).mono ?_); (case side1 => repeat (first | exact (by repeat (first | (with_reducible exact HR581_0.out) | (with_reducible refine Kd.C_alloc ?_ _) | (with_reducible refine Kd.C_drewN ?_ _) | (with_reducible refine Kd.C_drew ?_) | exact HR581_0.out)) | (with_reducible refine Kd.C_alloc ?_ _) | (with_reducible refine Kd.C_drewN ?_ _) | (with_reducible refine Kd.C_drew ?_))); (case side2 => exact HC581_0.out); (case side3 => repeat (first | exact (by repeat (first | (with_reducible exact HR582_0.out) | (with_reducible refine Kd.C_alloc ?_ _) | (with_reducible refine Kd.C_drewN ?_ _) | (with_reducible refine Kd.C_drew ?_) | exact HR582_0.out)) | (with_reducible refine Kd.C_alloc ?_ _) | (with_reducible refine Kd.C_drewN ?_ _) | (with_reducible refine Kd.C_drew ?_))); (case side4 => exact HC582_0.out); rintro e w' ⟨rfl, ⟨nd, rfl⟩⟩; (try first | exact ⟨rfl, _, World.drewN_drewN _ _ _⟩ | exact ⟨rfl, _, Eq.trans (World.drewN_drewN _ _ _) (congrArg (World.drewN _) (Nat.add_assoc _ _ _))⟩)))
                            repeat (go_quiet (first | (go_at_call 31; (with_reducible refine (vinculumref10_Same.calls k3 _ _ (rd_L5 t565 x62_3) _ _ (rd_L5 t569 x62_3) false _ ?side1 ?side2 ?side3 ?side4 A38.out).mono ?_); (case side1 => repeat (first | exact (by repeat (first | (with_reducible exact HR581_0.out) | (with_reducible refine Kd.C_alloc ?_ _) | (with_reducible refine Kd.C_drewN ?_ _) | (with_reducible refine Kd.C_drew ?_) | exact HR581_0.out)) | (with_reducible refine Kd.C_alloc ?_ _) | (with_reducible refine Kd.C_drewN ?_ _) | (with_reducible refine Kd.C_drew ?_))); (case side2 => exact HC581_0.out); (case side3 => repeat (first | exact (by repeat (first | (with_reducible exact HR582_0.out) | (with_reducible refine Kd.C_alloc ?_ _) | (with_reducible refine Kd.C_drewN ?_ _) | (with_reducible refine Kd.C_drew ?_) | exact HR582_0.out)) | (with_reducible refine Kd.C_alloc ?_ _) | (with_reducible refine Kd.C_drewN ?_ _) | (with_reducible refine Kd.C_drew ?_))); (case side4 => exact HC582_0.out); rintro e w' ⟨rfl, ⟨nd, rfl⟩⟩; (try first | exact ⟨rfl, _, World.drewN_drewN _ _ _⟩ | exact ⟨rfl, _, Eq.trans (World.drewN_drewN _ _ _) (congrArg (World.drewN _) (Nat.add_assoc _ _ _))⟩))); try go_wp2_with (first | (go_at_call 31; (with_reducible refine (vinculumref10_Same.calls k3 _ _ (rd_L5 t565 x62_3) _ _ (rd_L5 t569 x62_3) false _ ?side1 ?side2 ?side3 ?side4 A38.out).mono ?_); (case side1 => repeat (first | exact (by repeat (first | (with_reducible exact HR581_0.out) | (with_reducible refine Kd.C_alloc ?_ _) | (with_reducible refine Kd.C_drewN ?_ _) | (with_reducible refine Kd.C_drew ?_) | exact HR581_0.out)) | (with_reducible refine Kd.C_alloc ?_ _) | (with_reducible refine Kd.C_drewN ?_ _) | (with_reducible refine Kd.C_drew ?_))); (case side2 => exact HC581_0.out); (case side3 => repeat (first | exact (by repeat (first | (with_reducible exact HR582_0.out) | (with_reducible refine Kd.C_alloc ?_ _) | (with_reducible refine Kd.C_drewN ?_ _) | (with_reducible refine Kd.C_drew ?_) | exact HR582_0.out)) | (with_reducible refine Kd.C_alloc ?_ _) | (with_reducible refine Kd.C_drewN ?_ _) | (with_reducible refine Kd.C_drew ?_))); (case side4 => exact HC582_0.out); rintro e w' ⟨rfl, ⟨nd, rfl⟩⟩; (try first | exact ⟨rfl, _, World.drewN_drewN _ _ _⟩ | exact ⟨rfl, _, Eq.trans (World.drewN_drewN _ _ _) (congrArg (World.drewN _) (Nat.add_assoc _ _ _))⟩))))
                            go_ret
                            exact ⟨by first | rfl | (simp [errW_none, errW_some] <;> rfl) | (simp [*, errW_none, errW_some] <;> rfl), by repeat (first | (with_reducible first | exact HB.out | apply below_alloc | apply pw_below_drewN | apply below_drew1 | refine below_set ?_ GE561.out) | exact HB.out)⟩
                        · rw [if_neg c37] at H
                          exact absurd H (by simp)
                      · rw [if_neg c36] at H
                        exact absurd H (by simp)
                    · rw [if_neg c35] at H
                      exact absurd H (by simp)
                  · rw [if_neg c34] at H
                    have c34b0 : decide (x62_3 < (t569.length : Int)) = false := decide_eq_false c34
                    clear c34
                    by_cases c42 : t572 = 0
                    · rw [if_pos c42] at H
                      have c42b0 : (t572 == 0) = true := beq_iff_eq.mpr c42
                      have c42b1 : (t572 != 0) = false := bne_eq_false_iff_eq.mpr c42
                      clear c42
                      by_cases c43 : 0 < (t569.length : Int)
                      · rw [if_pos c43] at H
                        have c43b0 : decide (0 < (t569.length : Int)) = true := decide_eq_true c43
                        have c43b1 : decide (0 < t569.length) = true := decide_eq_true (by omega)
                        clear c43
                        replace H := Option.bind_eq_some_iff.mp H
                        obtain ⟨t585, A440, H⟩ := H
                        replace H : (if t585 = true then (if 0 ≤ (wrap64 ((t569.length : Int) - 1)) then (if (wrap64 ((t569.length : Int) - 1)) < (t569.length : Int) then ((vinculumref10_Same.f k3 t577 (rd_L5 t569 (wrap64 ((t569.length : Int) - 1)))).bind fun t587 => (some t587)) else (none)) else (none)) else (some false)) = some r := H
                        have A44 := Aside0.mk A440
                        clear A440
                        by_cases c45 : t585 = true
                        · subst c45
                          have H1 : (if 0 ≤ (wrap64 ((t569.length : Int) - 1)) then (if (wrap64 ((t569.length : Int) - 1)) < (t569.length : Int) then ((vinculumref10_Same.f k3 t577 (rd_L5 t569 (wrap64 ((t569.length : Int) - 1)))).bind fun t587 => (some t587)) else (none)) else (none)) = some r := by rw [if_pos rfl] at H; exact H
                          clear H
                          have H := H1
                          clear H1
                          obtain ⟨ji46, hji46⟩ : ∃ j_ : Int, (wrap64 ((t569.length : Int) - 1)) = j_ := ⟨_, rfl⟩
                          replace H : (if 0 ≤ (ji46) then (if (ji46) < (t569.length : Int) then ((vinculumref10_Same.f k3 t577 (rd_L5 t569 (ji46))).bind fun t587 => (some t587)) else (none)) else (none)) = some r := by first | (rw [hji46] at H; exact H) | (simp only [hji46] at H ⊢; exact H)
                          (try rw [hji46] at A44)
                          have hji46w : (IntKind.i64.wrap ((t569.length : Int) - 1)) = ji46 := (i64_w _).trans hji46
                          by_cases c47 : 0 ≤ (ji46)
                          · rw [if_pos c47] at H
                            have c47b0 : decide (0 ≤ (ji46)) = true := decide_eq_true c47
                            clear c47
                            by_cases c48 : (ji46) < (t569.length : Int)
                            · rw [if_pos c48] at H
                              have c48b0 : decide ((ji46) < (t569.length : Int)) = true := decide_eq_true c48
                              clear c48
                              replace H := Option.bind_eq_some_iff.mp H
                              obtain ⟨t587, A490, H⟩ := H
                              replace H : (some t587) = some r := H
                              have A49 := Aside0.mk A490
                              clear A490
                              obtain rfl := Option.some.inj H
                              have p584 : 0 ≤ (0 : Int) := (by omega)
                              have q584 : 0 < (t569.length : Int) := of_decide_eq_true (by first | (with_reducible assumption) | assumption)
                              obtain ⟨ad584, A584_0, c584_0, e584, hx584_0, hl584_0, hi584_0⟩ := at_L5 (Kd.N_reads' HO_5.out).2.2 0 p584 q584
                              cases e584
                              obtain ⟨ce584, hce584, hMe584, hcc584⟩ := Kd.N_get HO_5.out [] 0 p584 (by first | exact q584 | exact of_decide_eq_true (by first | (with_reducible assumption) | assumption) | (have e_ := (Kd.N_reads' HO_5.out).1; omega))
                              obtain ⟨ua584_0, uc584_0, rfl, ul584_0, ge584_0⟩ := Kd.FK_slice_open hMe584
                              have hv584_0 := hcc584 0 _ rfl
                              rw [Nat.add_zero, show ((Kd.slice 3 (Kd.int .i64))).sz = 1 from rfl, Nat.mul_one] at hv584_0
                              replace hv584_0 := Option.some.inj (hv584_0.symm.trans hx584_0)
                              injection hv584_0 with hva_ hvn_ hvc_
                              rw [hva_] at ge584_0
                              rw [hvc_] at ul584_0
                              have HL584_0 := Aside0.mk (show Kd.V (Kd.int .i64) 3 _ w.heap.size _ _ (rd_L5 t569 0) from Kd.V_mk ul584_0 ge584_0)
                              clear hva_ hvn_ hvc_ ge584_0 ul584_0
                              clear hcc584 hce584
                              have qi584 : (0 < t569.length) = True := eq_true (by omega)
                              (try rw [show ((0 : Int)).toNat = 0 from rfl] at hx584_0)
                              (try rw [Addr.add_zero'] at hx584_0)
                              have HR584_0 := Aside0.mk hi584_0
                              have HC584_0 := Aside0.mk hl584_0
                              clear hi584_0 hl584_0
                              replace p584 := eq_true p584
                              replace q584 := eq_true q584
                              obtain ⟨Ao50, co50, eo50⟩ := Kd.V_slice HO_7.out
                              subst eo50
                              have p586 : 0 ≤ ((ji46) : Int) := of_decide_eq_true (by first | (with_reducible assumption) | assumption)
                              have q586 : (ji46) < (t569.length : Int) := of_decide_eq_true (by first | (with_reducible assumption) | assumption)
                              obtain ⟨ad586, A586_0, c586_0, e586, hx586_0, hl586_0, hi586_0⟩ := at_L5 (Kd.N_reads' HO_5.out).2.2 (ji46) p586 q586; obtain rfl : ad584 = ad586 := (by injection e586)
                              obtain ⟨ce586, hce586, hMe586, hcc586⟩ := Kd.N_get HO_5.out [] (ji46) p586 (by first | exact q586 | exact of_decide_eq_true (by first | (with_reducible assumption) | assumption) | (have e_ := (Kd.N_reads' HO_5.out).1; omega))
                              obtain ⟨ua586_0, uc586_0, rfl, ul586_0, ge586_0⟩ := Kd.FK_slice_open hMe586; have hv586_0 := hcc586 0 _ rfl; rw [Nat.add_zero, show ((Kd.slice 3 (Kd.int .i64))).sz = 1 from rfl, Nat.mul_one] at hv586_0
                              replace hv586_0 := Option.some.inj (hv586_0.symm.trans hx586_0); injection hv586_0 with hva_ hvn_ hvc_; rw [hva_] at ge586_0; rw [hvc_] at ul586_0; have HL586_0 := Aside0.mk (show Kd.V (Kd.int .i64) 3 _ w.heap.size _ _ (rd_L5 t569 (ji46)) from Kd.V_mk ul586_0 ge586_0); clear hva_ hvn_ hvc_ ge586_0 ul586_0; clear hcc586 hce586; have HR586_0 := Aside0.mk hi586_0; have HC586_0 := Aside0.mk hl586_0; clear hi586_0 hl586_0
                              replace p586 := eq_true p586
                              replace q586 := eq_true q586
                              go_wp2_with (first | (go_at_call 31; (with_reducible refine (vinculumref10_Same.calls k3 _ _ t573 _ _ (rd_L5 t569 0) true _ ?side1 ?side2 ?side3 ?side4 A44.out).mono ?_); (case side1 => repeat (first | exact (Kd.V_reads' HO_7.out).2.2 | (with_reducible refine Kd.C_alloc ?_ _) | (with_reducible refine Kd.C_drewN ?_ _) | (with_reducible refine Kd.C_drew ?_))); (case side2 => exact (Kd.V_reads' HO_7.out).2.1); (case side3 => repeat (first | exact (by repeat (first | (with_reducible exact HR584_0.out) | (with_reducible refine Kd.C_alloc ?_ _) | (with_reducible refine Kd.C_drewN ?_ _) | (with_reducible refine Kd.C_drew ?_) | exact HR584_0.out)) | (with_reducible refine Kd.C_alloc ?_ _) | (with_reducible refine Kd.C_drewN ?_ _) | (with_reducible refine Kd.C_drew ?_))); (case side4 => exact HC584_0.out); rintro e w' ⟨rfl, ⟨nd, rfl⟩⟩; (try first | exact ⟨rfl, _, World.drewN_drewN _ _ _⟩ | exact ⟨rfl, _, Eq.trans (World.drewN_drewN _ _ _) (congrArg (World.drewN _) (Nat.add_assoc _ _ _))⟩); obtain ⟨Ao51, co51, eo51⟩ := Kd.V_slice HO_9.out; subst eo51) | (go_at_call 31; (with_reducible refine (vinculumref10_Same.calls k3 _ _ t577 _ _ (rd_L5 t569 (ji46)) t587 _ ?side1 ?side2 ?side3 ?side4 A49.out).mono ?_); (case side1 => repeat (first | exact (Kd.V_reads' HO_9.out).2.2 | (with_reducible refine Kd.C_alloc ?_ _) | (with_reducible refine Kd.C_drewN ?_ _) | (with_reducible refine Kd.C_drew ?_))); (case side2 => exact (Kd.V_reads' HO_9.out).2.1); (case side3 => repeat (first | exact (by repeat (first | (with_reducible exact HR586_0.out) | (with_reducible refine Kd.C_alloc ?_ _) | (with_reducible refine Kd.C_drewN ?_ _) | (with_reducible refine Kd.C_drew ?_) | exact HR586_0.out)) | (with_reducible refine Kd.C_alloc ?_ _) | (with_reducible refine Kd.C_drewN ?_ _) | (with_reducible refine Kd.C_drew ?_))); (case side4 => exact HC586_0.out); rintro e w' ⟨rfl, ⟨nd, rfl⟩⟩; (try first | exact ⟨rfl, _, World.drewN_drewN _ _ _⟩ | exact ⟨rfl, _, Eq.trans (World.drewN_drewN _ _ _) (congrArg (World.drewN _) (Nat.add_assoc _ _ _))⟩)))
                              repeat (go_quiet (first | (go_at_call 31; (with_reducible refine (vinculumref10_Same.calls k3 _ _ t573 _ _ (rd_L5 t569 0) true _ ?side1 ?side2 ?side3 ?side4 A44.out).mono ?_); (case side1 => repeat (first | exact (Kd.V_reads' HO_7.out).2.2 | (with_reducible refine Kd.C_alloc ?_ _) | (with_reducible refine Kd.C_drewN ?_ _) | (with_reducible refine Kd.C_drew ?_))); (case side2 => exact (Kd.V_reads' HO_7.out).2.1); (case side3 => repeat (first | exact (by repeat (first | (with_reducible exact HR584_0.out) | (with_reducible refine Kd.C_alloc ?_ _) | (with_reducible refine Kd.C_drewN ?_ _) | (with_reducible refine Kd.C_drew ?_) | exact HR584_0.out)) | (with_reducible refine Kd.C_alloc ?_ _) | (with_reducible refine Kd.C_drewN ?_ _) | (with_reducible refine Kd.C_drew ?_))); (case side4 => exact HC584_0.out); rintro e w' ⟨rfl, ⟨nd, rfl⟩⟩; (try first | exact ⟨rfl, _, World.drewN_drewN _ _ _⟩ | exact ⟨rfl, _, Eq.trans (World.drewN_drewN _ _ _) (congrArg (World.drewN _) (Nat.add_assoc _ _ _))⟩); obtain ⟨Ao51, co51, eo51⟩ := Kd.V_slice HO_9.out; subst eo51) | (go_at_call 31; (with_reducible refine (vinculumref10_Same.calls k3 _ _ t577 _ _ (rd_L5 t569 (ji46)) t587 _ ?side1 ?side2 ?side3 ?side4 A49.out).mono ?_); (case side1 => repeat (first | exact (Kd.V_reads' HO_9.out).2.2 | (with_reducible refine Kd.C_alloc ?_ _) | (with_reducible refine Kd.C_drewN ?_ _) | (with_reducible refine Kd.C_drew ?_))); (case side2 => exact (Kd.V_reads' HO_9.out).2.1); (case side3 => repeat (first | exact (by repeat (first | (with_reducible exact HR586_0.out) | (with_reducible refine Kd.C_alloc ?_ _) | (with_reducible refine Kd.C_drewN ?_ _) | (with_reducible refine Kd.C_drew ?_) | exact HR586_0.out)) | (with_reducible refine Kd.C_alloc ?_ _) | (with_reducible refine Kd.C_drewN ?_ _) | (with_reducible refine Kd.C_drew ?_))); (case side4 => exact HC586_0.out); rintro e w' ⟨rfl, ⟨nd, rfl⟩⟩; (try first | exact ⟨rfl, _, World.drewN_drewN _ _ _⟩ | exact ⟨rfl, _, Eq.trans (World.drewN_drewN _ _ _) (congrArg (World.drewN _) (Nat.add_assoc _ _ _))⟩))); try go_wp2_with (first | (go_at_call 31; (with_reducible refine (vinculumref10_Same.calls k3 _ _ t573 _ _ (rd_L5 t569 0) true _ ?side1 ?side2 ?side3 ?side4 A44.out).mono ?_); (case side1 => repeat (first | exact (Kd.V_reads' HO_7.out).2.2 | (with_reducible refine Kd.C_alloc ?_ _) | (with_reducible refine Kd.C_drewN ?_ _) | (with_reducible refine Kd.C_drew ?_))); (case side2 => exact (Kd.V_reads' HO_7.out).2.1); (case side3 => repeat (first | exact (by repeat (first | (with_reducible exact HR584_0.out) | (with_reducible refine Kd.C_alloc ?_ _) | (with_reducible refine Kd.C_drewN ?_ _) | (with_reducible refine Kd.C_drew ?_) | exact HR584_0.out)) | (with_reducible refine Kd.C_alloc ?_ _) | (with_reducible refine Kd.C_drewN ?_ _) | (with_reducible refine Kd.C_drew ?_))); (case side4 => exact HC584_0.out); rintro e w' ⟨rfl, ⟨nd, rfl⟩⟩; (try first | exact ⟨rfl, _, World.drewN_drewN _ _ _⟩ | exact ⟨rfl, _, Eq.trans (World.drewN_drewN _ _ _) (congrArg (World.drewN _) (Nat.add_assoc _ _ _))⟩); obtain ⟨Ao51, co51, eo51⟩ := Kd.V_slice HO_9.out; subst eo51) | (go_at_call 31; (with_reducible refine (vinculumref10_Same.calls k3 _ _ t577 _ _ (rd_L5 t569 (ji46)) t587 _ ?side1 ?side2 ?side3 ?side4 A49.out).mono ?_); (case side1 => repeat (first | exact (Kd.V_reads' HO_9.out).2.2 | (with_reducible refine Kd.C_alloc ?_ _) | (with_reducible refine Kd.C_drewN ?_ _) | (with_reducible refine Kd.C_drew ?_))); (case side2 => exact (Kd.V_reads' HO_9.out).2.1); (case side3 => repeat (first | exact (by repeat (first | (with_reducible exact HR586_0.out) | (with_reducible refine Kd.C_alloc ?_ _) | (with_reducible refine Kd.C_drewN ?_ _) | (with_reducible refine Kd.C_drew ?_) | exact HR586_0.out)) | (with_reducible refine Kd.C_alloc ?_ _) | (with_reducible refine Kd.C_drewN ?_ _) | (with_reducible refine Kd.C_drew ?_))); (case side4 => exact HC586_0.out); rintro e w' ⟨rfl, ⟨nd, rfl⟩⟩; (try first | exact ⟨rfl, _, World.drewN_drewN _ _ _⟩ | exact ⟨rfl, _, Eq.trans (World.drewN_drewN _ _ _) (congrArg (World.drewN _) (Nat.add_assoc _ _ _))⟩))))
                              go_ret
                              exact ⟨by first | rfl | (simp [errW_none, errW_some] <;> rfl) | (simp only [← hji46]; first | rfl | (simp [errW_none, errW_some] <;> rfl)) | (simp [*, errW_none, errW_some] <;> rfl), by repeat (first | (with_reducible first | exact HB.out | apply below_alloc | apply pw_below_drewN | apply below_drew1 | refine below_set ?_ GE561.out) | exact HB.out)⟩
                            · rw [if_neg c48] at H
                              exact absurd H (by simp)
                          · rw [if_neg c47] at H
                            exact absurd H (by simp)
                        · replace c45 := Bool.eq_false_iff.mpr c45
                          subst c45
                          have H1 : (some false) = some r := by rw [if_neg (show ¬ (false = true) by decide)] at H; exact H
                          clear H
                          have H := H1
                          clear H1
                          obtain rfl := Option.some.inj H
                          have p584 : 0 ≤ (0 : Int) := (by omega)
                          have q584 : 0 < (t569.length : Int) := of_decide_eq_true (by first | (with_reducible assumption) | assumption)
                          obtain ⟨ad584, A584_0, c584_0, e584, hx584_0, hl584_0, hi584_0⟩ := at_L5 (Kd.N_reads' HO_5.out).2.2 0 p584 q584
                          cases e584
                          obtain ⟨ce584, hce584, hMe584, hcc584⟩ := Kd.N_get HO_5.out [] 0 p584 (by first | exact q584 | exact of_decide_eq_true (by first | (with_reducible assumption) | assumption) | (have e_ := (Kd.N_reads' HO_5.out).1; omega))
                          obtain ⟨ua584_0, uc584_0, rfl, ul584_0, ge584_0⟩ := Kd.FK_slice_open hMe584
                          have hv584_0 := hcc584 0 _ rfl
                          rw [Nat.add_zero, show ((Kd.slice 3 (Kd.int .i64))).sz = 1 from rfl, Nat.mul_one] at hv584_0
                          replace hv584_0 := Option.some.inj (hv584_0.symm.trans hx584_0)
                          injection hv584_0 with hva_ hvn_ hvc_
                          rw [hva_] at ge584_0
                          rw [hvc_] at ul584_0
                          have HL584_0 := Aside0.mk (show Kd.V (Kd.int .i64) 3 _ w.heap.size _ _ (rd_L5 t569 0) from Kd.V_mk ul584_0 ge584_0)
                          clear hva_ hvn_ hvc_ ge584_0 ul584_0
                          clear hcc584 hce584
                          have qi584 : (0 < t569.length) = True := eq_true (by omega)
                          (try rw [show ((0 : Int)).toNat = 0 from rfl] at hx584_0)
                          (try rw [Addr.add_zero'] at hx584_0)
                          have HR584_0 := Aside0.mk hi584_0
                          have HC584_0 := Aside0.mk hl584_0
                          clear hi584_0 hl584_0
                          replace p584 := eq_true p584
                          replace q584 := eq_true q584
                          obtain ⟨Ao52, co52, eo52⟩ := Kd.V_slice HO_7.out
                          subst eo52
                          go_wp2_with (first | (go_at_call 31; (with_reducible refine (vinculumref10_Same.calls k3 _ _ t573 _ _ (rd_L5 t569 0) false _ ?side1 ?side2 ?side3 ?side4 A44.out).mono ?_); (case side1 => repeat (first | exact (Kd.V_reads' HO_7.out).2.2 | (with_reducible refine Kd.C_alloc ?_ _) | (with_reducible refine Kd.C_drewN ?_ _) | (with_reducible refine Kd.C_drew ?_))); (case side2 => exact (Kd.V_reads' HO_7.out).2.1); (case side3 => repeat (first | exact (by repeat (first | (with_reducible exact HR584_0.out) | (with_reducible refine Kd.C_alloc ?_ _) | (with_reducible refine Kd.C_drewN ?_ _) | (with_reducible refine Kd.C_drew ?_) | exact HR584_0.out)) | (with_reducible refine Kd.C_alloc ?_ _) | (with_reducible refine Kd.C_drewN ?_ _) | (with_reducible refine Kd.C_drew ?_))); (case side4 => exact HC584_0.out); rintro e w' ⟨rfl, ⟨nd, rfl⟩⟩; (try first | exact ⟨rfl, _, World.drewN_drewN _ _ _⟩ | exact ⟨rfl, _, Eq.trans (World.drewN_drewN _ _ _) (congrArg (World.drewN _) (Nat.add_assoc _ _ _))⟩)))
                          repeat (go_quiet (first | (go_at_call 31; (with_reducible refine (vinculumref10_Same.calls k3 _ _ t573 _ _ (rd_L5 t569 0) false _ ?side1 ?side2 ?side3 ?side4 A44.out).mono ?_); (case side1 => repeat (first | exact (Kd.V_reads' HO_7.out).2.2 | (with_reducible refine Kd.C_alloc ?_ _) | (with_reducible refine Kd.C_drewN ?_ _) | (with_reducible refine Kd.C_drew ?_))); (case side2 => exact (Kd.V_reads' HO_7.out).2.1); (case side3 => repeat (first | exact (by repeat (first | (with_reducible exact HR584_0.out) | (with_reducible refine Kd.C_alloc ?_ _) | (with_reducible refine Kd.C_drewN ?_ _) | (with_reducible refine Kd.C_drew ?_) | exact HR584_0.out)) | (with_reducible refine Kd.C_alloc ?_ _) | (with_reducible refine Kd.C_drewN ?_ _) | (with_reducible refine Kd.C_drew ?_))); (case side4 => exact HC584_0.out); rintro e w' ⟨rfl, ⟨nd, rfl⟩⟩; (try first | exact ⟨rfl, _, World.drewN_drewN _ _ _⟩ | exact ⟨rfl, _, Eq.trans (World.drewN_drewN _ _ _) (congrArg (World.drewN _) (Nat.add_assoc _ _ _))⟩))); try go_wp2_with (first | (go_at_call 31; (with_reducible refine (vinculumref10_Same.calls k3 _ _ t573 _ _ (rd_L5 t569 0) false _ ?side1 ?side2 ?side3 ?side4 A44.out).mono ?_); (case side1 => repeat (first | exact (Kd.V_reads' HO_7.out).2.2 | (with_reducible refine Kd.C_alloc ?_ _) | (with_reducible refine Kd.C_drewN ?_ _) | (with_reducible refine Kd.C_drew ?_))); (case side2 => exact (Kd.V_reads' HO_7.out).2.1); (case side3 => repeat (first | exact (by repeat (first | (with_reducible exact HR584_0.out) | (with_reducible refine Kd.C_alloc ?_ _) | (with_reducible refine Kd.C_drewN ?_ _) | (with_reducible refine Kd.C_drew ?_) | exact HR584_0.out)) | (with_reducible refine Kd.C_alloc ?_ _) | (with_reducible refine Kd.C_drewN ?_ _) | (with_reducible refine Kd.C_drew ?_))); (case side4 => exact HC584_0.out); rintro e w' ⟨rfl, ⟨nd, rfl⟩⟩; (try first | exact ⟨rfl, _, World.drewN_drewN _ _ _⟩ | exact ⟨rfl, _, Eq.trans (World.drewN_drewN _ _ _) (congrArg (World.drewN _) (Nat.add_assoc _ _ _))⟩))))
                          go_ret
                          exact ⟨by first | rfl | (simp [errW_none, errW_some] <;> rfl) | (simp [*, errW_none, errW_some] <;> rfl), by repeat (first | (with_reducible first | exact HB.out | apply below_alloc | apply pw_below_drewN | apply below_drew1 | refine below_set ?_ GE561.out) | exact HB.out)⟩
                      · rw [if_neg c43] at H
                        exact absurd H (by simp)
                    · rw [if_neg c42] at H
                      have c42b0 : (t572 == 0) = false := beq_eq_false_iff_ne.mpr c42
                      have c42b1 : (t572 != 0) = true := bne_iff_ne.mpr c42
                      by_cases c53 : (t573.length : Int) = 0
                      · rw [if_pos c53] at H
                        have c53b0 : ((t573.length : Int) == 0) = true := beq_iff_eq.mpr c53
                        have c53b1 : ((t573.length : Int) != 0) = false := bne_eq_false_iff_eq.mpr c53
                        clear c53
                        by_cases c54 : (t577.length : Int) = 0
                        · rw [if_pos c54] at H
                          have c54b0 : ((t577.length : Int) == 0) = true := beq_iff_eq.mpr c54
                          have c54b1 : ((t577.length : Int) != 0) = false := bne_eq_false_iff_eq.mpr c54
                          clear c54
                          obtain rfl := Option.some.inj H
                          obtain ⟨Ao55, co55, eo55⟩ := Kd.V_slice HO_7.out
                          subst eo55
                          obtain ⟨Ao56, co56, eo56⟩ := Kd.V_slice HO_9.out
                          subst eo56
                          go_wp2
                          repeat (go_quiet (fail); try go_wp2)
                          go_ret
                          exact ⟨by first | rfl | (simp [errW_none, errW_some] <;> rfl) | (simp [*, errW_none, errW_some] <;> rfl), by repeat (first | (with_reducible first | exact HB.out | apply below_alloc | apply pw_below_drewN | apply below_drew1 | refine below_set ?_ GE561.out) | exact HB.out)⟩
                        · rw [if_neg c54] at H
                          have c54b0 : ((t577.length : Int) == 0) = false := beq_eq_false_iff_ne.mpr c54
                          have c54b1 : ((t577.length : Int) != 0) = true := bne_iff_ne.mpr c54
                          have c54b2 : ¬ (t577 = []) := fun h_ => c54 (by rw [h_]; rfl)
                          obtain rfl := Option.some.inj H
                          obtain ⟨Ao57, co57, eo57⟩ := Kd.V_slice HO_7.out
                          subst eo57
                          obtain ⟨Ao58, co58, eo58⟩ := Kd.V_slice HO_9.out
                          subst eo58
                          go_wp2
                          repeat (go_quiet (fail); try go_wp2)
                          go_ret
                          exact ⟨by first | rfl | (simp [errW_none, errW_some] <;> rfl) | (simp [*, errW_none, errW_some] <;> rfl), by repeat (first | (with_reducible first | exact HB.out | apply below_alloc | apply pw_below_drewN | apply below_drew1 | refine below_set ?_ GE561.out) | exact HB.out)⟩
                      · rw [if_neg c53] at H
                        have c53b0 : ((t573.length : Int) == 0) = false := beq_eq_false_iff_ne.mpr c53
                        have c53b1 : ((t573.length : Int) != 0) = true := bne_iff_ne.mpr c53
                        have c53b2 : ¬ (t573 = []) := fun h_ => c53 (by rw [h_]; rfl)
                        obtain rfl := Option.some.inj H
                        obtain ⟨Ao59, co59, eo59⟩ := Kd.V_slice HO_7.out
                        subst eo59
                        go_wp2
                        repeat (go_quiet (fail); try go_wp2)
                        go_ret
                        exact ⟨by first | rfl | (simp [errW_none, errW_some] <;> rfl) | (simp [*, errW_none, errW_some] <;> rfl), by repeat (first | (with_reducible first | exact HB.out | apply below_alloc | apply pw_below_drewN | apply below_drew1 | refine below_set ?_ GE561.out) | exact HB.out)⟩
end Go.Proofs.YtagkhoeidjlahaaDoor.G
namespace Go.Proofs.YtagkhoeidjlahaaDoor.G.Pure
open Go.Proofs.YtagkhoeidjlahaaDoorW.PrintWords Go.RowKit
set_option linter.unusedVariables false
set_option linter.unusedSimpArgs false
theorem PositionAll (x : S36) (hx : OkNode x) : ∃ k, vinculumlaw10_PositionAll.f k x.f0 x.f1 x.f2 x.f3 = some true := by
  apply Ev.rounds
  unfold vinculumlaw10_PositionAll.f
  refine guard10 (α := Unit) x hx [] (g := fun k b => vinculumlaw10_PositionAll.j0 k b x.f0 x.f1 x.f2 x.f3) ?_ ?_
  · refine Ev.step (fun k => by rw [vinculumlaw10_PositionAll.j0]) ?_
    exact ev_if (fun _ => aw (α := Unit)) fun h => absurd rfl h
  · intro h1 h2
    have hle := xs_le x
    refine Ev.step (fun k => by rw [vinculumlaw10_PositionAll.j0]) ?_
    refine ev_if (fun h => by cases h) fun _ => ?_
    refine ev_bind (pAll_ev x hx) ?_
    refine ev_bind (rAll2_ev x hx (by omega)) ?_
    refine ev_bind (pFirst_ev x hx) ?_
    refine ev_bind (pLast_ev x hx) ?_
    refine ev_if (fun _ => ?_) fun h => absurd rfl h
    have hll := xs_len x
    have e0 : (allB x).1.length = if validB x = true then (xsOf x).length else 0 := by unfold allB; split <;> rfl
    have f1 : (atB x 0).2 = (allB x).2 := by
      unfold atB allB
      split
      · rw [if_pos ⟨by omega, by omega⟩]
      · rfl
    have f2 : (atB x (wrap64 (((allB x).1.length : Int) - 1))).2 = (allB x).2 := by
      rw [wr (n := ((allB x).1.length : Int) - 1) (by rw [e0]; split <;> omega)]
      unfold atB
      split
      · rename_i hv
        rw [e0, if_pos hv, if_pos ⟨by omega, by omega⟩]
        unfold allB; rw [if_pos hv]
      · rename_i hv
        unfold allB; rw [if_neg hv]
    refine ev_if (fun _ => ?_) fun h => absurd f1 h
    refine ev_if (fun _ => ?_) fun h => absurd f2 h
    have e3 : ((((allB x).1.length : Nat) : Int) != (((allB x).1.length : Nat) : Int)) = false := by simp
    rw [e3]
    refine Ev.step (fun k => by rw [vinculumlaw10_PositionAll.j1]) ?_
    refine ev_if (fun h => by cases h) fun _ => ?_
    have sh : Short (allB x).1 := by
      unfold allB
      split
      · exact xs_short x (by omega)
      · intro q hq; simp at hq
    have hA : (allB x).1.length ≤ 1000 := by rw [e0]; split <;> omega
    have loop : ∀ (m i : Nat), (allB x).1.length - i = m → Ev (fun k => vinculumlaw10_PositionAll.l0 k (allB x).1 (allB x).1 (allB x).2 (atB x 0).1 (atB x (wrap64 (((allB x).1.length : Int) - 1))).1 ((allB x).1.length : Int) i) true := by
      intro m
      induction m with
      | zero =>
        intro i hi
        refine Ev.step (fun k => by rw [vinculumlaw10_PositionAll.l0]) ?_
        refine ev_if (fun h => by omega) fun _ => ?_
        rw [wr (n := ((allB x).1.length : Int) - 1) (by omega)]
        cases hv : validB x with
        | true =>
          have ea : allB x = (xsOf x, 0) := by unfold allB; rw [if_pos hv]
          rw [ea]
          simp only
          refine ev_if (fun _ => ?_) fun h => absurd trivial h
          refine ev_if (fun _ => ?_) fun h => by omega
          have a0 : (atB x 0).1 = rd_L5 (xsOf x) 0 := by unfold atB; rw [if_pos hv, if_pos ⟨by omega, by omega⟩]
          have a1 : (atB x (((xsOf x).length : Int) - 1)).1 = rd_L5 (xsOf x) (((xsOf x).length : Int) - 1) := by unfold atB; rw [if_pos hv, if_pos ⟨by omega, by omega⟩]
          rw [a0, a1]
          have s0 : (rd_L5 (xsOf x) 0).length ≤ M := by rw [← a0]; exact at_short x (by omega) 0
          have s1 : (rd_L5 (xsOf x) (((xsOf x).length : Int) - 1)).length ≤ M := by rw [← a1]; exact at_short x (by omega) _
          refine ev_bind (same_self _ s0) ?_
          refine ev_if (fun _ => ?_) fun h => absurd rfl h
          refine ev_if (fun _ => ?_) fun h => by omega
          refine ev_if (fun _ => ?_) fun h => by omega
          exact ev_bind (same_self _ s1) (Ev.now _)
        | false =>
          have ea : allB x = ([], 1) := by unfold allB; rw [if_neg (by simp [hv])]
          have a0 : ∀ i, (atB x i).1 = [] := by intro i; unfold atB; rw [if_neg (by simp [hv])]
          rw [ea, a0, a0]
          refine ev_if (fun h => by simp at h) fun _ => ?_
          refine ev_if (fun _ => ?_) fun h => absurd rfl h
          exact ev_if (fun _ => Ev.now _) fun h => absurd rfl h
      | succ m ih =>
        intro i hi
        have hil : i < (allB x).1.length := by omega
        refine Ev.step (fun k => by rw [vinculumlaw10_PositionAll.l0]) ?_
        refine ev_if (fun _ => ?_) fun h => by omega
        refine ev_if (fun _ => ?_) fun h => by omega
        refine ev_if (fun _ => ?_) fun h => by omega
        refine ev_if (fun _ => ?_) fun h => by omega
        refine ev_bind (same_self _ (by rw [rdL_at _ _ hil]; exact sh _ (List.getElem_mem hil))) ?_
        refine ev_if (fun _ => ?_) fun h => absurd rfl h
        rw [wr (n := (i : Int) + 1) (by omega)]
        have := ih (i + 1) (by omega)
        exact_mod_cast this
    exact loop _ 0 rfl
end Go.Proofs.YtagkhoeidjlahaaDoor.G.Pure
namespace Go.Proofs.YtagkhoeidjlahaaDoor.positionAll
open Go.ChangeShapes Go.WideShapes Go.ChangeAt Go.RowKit G
set_option linter.unusedVariables false
theorem own : ownKnob Tryd.prog.godebug = none := by kernel_rfl
theorem laidOut : laidOutB Tryd.prog = true := by kernel_rfl
set_option maxRecDepth 100000 in
theorem lifted (os : Os) (started : os.Started) (H : Type) (enc : TypeId × Value → H) :
    ReturnsInHanded {} Tryd.checked os 9 .any (fun w args => (Rows.positionAllSpec.pre enc Tryd.prog Tryd.f9 Rows.positionAllRow.domain false w args ∧ laidMetH Tryd.prog Rows.positionAllRow.laid w) ∧ sizedMet enc Tryd.prog Tryd.f9 (OpenSpec.ofChange Rows.positionAllSpec) false w args)
      (Rows.positionAllSpec.post enc Tryd.prog Tryd.f9 false true false false) := by
  refine returnsInHanded_of_change_and (C := Tryd.checked) (X := fun w _ => laidMetH Tryd.prog Rows.positionAllRow.laid w) (fun _ _ _ hh h => h.of_heap hh) own started (by kernel_rfl) Tryd.func9
    (ChangeSpec.witness_shaped (enc := enc) (C := Tryd.checked) (os := os) (X := fun w _ => laidMetH Tryd.prog Rows.positionAllRow.laid w) false (World.laidAll Tryd.prog os Rows.positionAllRow.laid) #[.agg #[.int .i64 0, .string ⟨#[]⟩, .int .i64 0, .slice none 0 0]] 8 (World.laidAll_os _ _ _)
      (World.shaped_of_ZipB (by kernel_rfl) (by kernel_rfl)) (by kernel_rfl) (by kernel_rfl) (by kernel_rfl)
      (by rw [MakeChecks.laidMetH_plain _ _ _ (by kernel_rfl)]; exact laidMet_laidAll _ (by kernel_rfl) (by kernel_rfl))) ?_
  intro W base args ds gs before hval0 hW hc _ hL _
  have hval : ∀ (j : Nat) t v, Tryd.f9.params[j]? = some t → args[j]? = some v → Value.okWide Tryd.prog W .any base t v := hval0
  have hW' := hW
  obtain ⟨p, q, hA0, hV, rfl, _, _⟩ := hW
  have hA : DataW.TrodAll enc Tryd.prog W 0 (fun _ => true) true Tryd.f9.params.toList args.toList ds p := hA0
  rw [Tryd.params9] at hA hval
  obtain ⟨v0, vs0, d0, ds0, p0, q0, hargs, rfl, rfl, h0, r0⟩ := trodAll_cons hA
  obtain ⟨rfl, rfl, rfl⟩ := trodAll_nil r0
  obtain rfl : args = #[v0] := by cases args; simp_all
  obtain ⟨rfl, rfl⟩ := trodVars_none hV
  have k0 := h0
  have lt0 : ∀ x ∈ p0, x.block < W.heap.size := by obtain ⟨m, hm⟩ := k0; exact DataW.trod_lt m _ _ _ hm
  obtain ⟨x0, A0, c0, rfl, le0, C0, o0⟩ := node_arg (hval 0 36 v0 rfl rfl) h0
  clear hA0 hval0
  obtain ⟨k, hk⟩ := G.Pure.PositionAll x0 o0
  refine (vinculumlaw10_PositionAll.calls k x0.f0 x0.f1 x0.f2 A0 c0 x0.f3 true W C0 le0 hk).mono fun e W' ⟨he, bel⟩ => ?_
  subst he
  exact ⟨_, rfl, _, _, _, [], _, [], hW', trodAll_mk1 (shut_bool Tryd.underlying4 _), (trodAll_cons_mk (Below.trod laidOut (by kernel_rfl) (of_decide_eq_true (by kernel_rfl)) k0 bel lt0) trodAll_mk0), rfl, bel.frame _, fun h => by cases h⟩
theorem holds : Rows.PositionAllSaid :=
  OpenClaim.holds_of_wide 9 Tryd.f9 rfl rfl rfl rfl rfl rfl rfl ⟨rfl, rfl, rfl, rfl, rfl⟩ rfl rfl rfl rfl rfl (by kernel_rfl) Tryd.func9 (by kernel_rfl)
    (of_decide_eq_true (by kernel_rfl)) (by unfold Func.isWrapper; first | (rw [if_pos (by decide +kernel)]; kernel_rfl) | (rw [if_neg (by decide +kernel)]; exact ⟨rfl, rfl⟩))
    (fun os started H enc _ => lifted os started H enc)
theorem card : Rows.PositionAllCardSaid :=
  Claim7.holds_tied_plain_at .later [] [.data, .pinned] true (true, "c39d0df16196e9f8f3819fe85171d6b94f20910c6b42b30e9fe380aa6e06d008") false holds (fun _ h => by cases h) (by kernel_rfl) (fun _ h => by cases h) positionAll_row_tie rfl ⟨rfl, rfl⟩ (by kernel_rfl) rfl
    (fun f fn hf hfn => by
      obtain rfl : f = 9 := Option.some.inj ((show Tryd.prog.funcNamed "vinculum/vinculumlaw10.PositionAll" = some 9 by kernel_rfl).symm.trans hf) |>.symm
      obtain rfl : fn = Tryd.f9 := (Option.some.inj (Tryd.func9.symm.trans hfn)).symm
      exact ⟨by kernel_rfl, fun j t ht => by
        rw [Tryd.params9] at ht
        have hm : t ∈ [36] := by simpa using Array.mem_of_getElem? ht
        have hall : ([36].all fun u => !Tryd.prog.wantsStandIn u) = true := by kernel_rfl
        exact (show Tryd.prog.wantsStandIn t = false by simpa using List.all_eq_true.1 hall t hm)⟩)
    (by kernel_rfl)
end Go.Proofs.YtagkhoeidjlahaaDoor.positionAll
namespace Go.Proofs.YtagkhoeidjlahaaDoor
theorem positionAll_card : Rows.PositionAllCardSaid := positionAll.card
#print axioms positionAll_card
end Go.Proofs.YtagkhoeidjlahaaDoor
