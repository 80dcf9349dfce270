-- Written by pack2.py, a program of this session: this session's texts and those that the kit's printer wrote for this claim, pruned to what the claims use.
import Derived.Test.YthdppkmmfjaiaaaDoorCAt2
import Derived.Test.YthdppkmmfjaiaaaDoorCAt16
import Derived.Test.YthdppkmmfjaiaaaDoorCAt11
import Derived.Test.YthdppkmmfjaiaaaDoorCAt17
import Derived.Test.YthdppkmmfjaiaaaDoorRows
import Derived.Test.YthdppkmmfjaiaaaDoorTie
import Derived.Test.YthdppkmmfjaiaaaDoorCards
import Derived.WalkKit
import Derived.ProofKit
import Derived.OpenShut
import Derived.ShutString
import Derived.ChangeOld
import Derived.Below
import Derived.SizedLaws
import Derived.LaidMore
import Derived.Lay
import Derived.SevenTiedAt
import Derived.Stop.Joined
namespace Go.Proofs.YthdppkmmfjaiaaaDoor.G
open Go.RowKit Go.Proofs.YthdppkmmfjaiaaaDoorW.PrintWords Go.Proofs.YthdppkmmfjaiaaaDoorW.PrintLast Go.Proofs.YthdppkmmfjaiaaaDoorW.PrintMore
attribute [local go_sem] max2_int min2_int max_two min_two max_three min_three max_four min_four
set_option linter.unusedVariables false
set_option linter.unusedSimpArgs false
mutual
def vinculumlaw26_AtomBinary.l0 : Nat → List Int → Int → List (S59) → List (S25) → Option (Bool)
  | 0, _, _, _, _ => none
  | k + 1, x3, x5, x381000, x381001 => if x5 < (x3.length : Int) then (if 0 ≤ x5 then (if (rd x3 x5) = 2 then (if x5 = 0 then (vinculumlaw26_AtomBinary.j1 k x3 x5 true x381000 x381001) else (vinculumlaw26_AtomBinary.j1 k x3 x5 (x5 == (wrap64 ((x3.length : Int) - 1))) x381000 x381001)) else (vinculumlaw26_AtomBinary.l0 k x3 (wrap64 (x5 + 1)) x381000 x381001)) else (none)) else (some ((x3.length : Int) == (x381001.length : Int)))
def vinculumlaw26_AtomBinary.j1 : Nat → List Int → Int → Bool → List (S59) → List (S25) → Option (Bool)
  | 0, _, _, _, _, _ => none
  | k + 1, x3, x5, x45, x381000, x381001 => if x45 = true then (some false) else (if 0 ≤ (wrap64 (x5 - 1)) then (if (wrap64 (x5 - 1)) < (x3.length : Int) then (if 0 ≤ (wrap64 (x5 + 1)) then (if (wrap64 (x5 + 1)) < (x3.length : Int) then (if (rd x3 (wrap64 (x5 - 1))) = 0 then (vinculumlaw26_AtomBinary.j2 k x3 x5 (rd x3 (wrap64 (x5 + 1))) false x381000 x381001) else (if (rd x3 (wrap64 (x5 - 1))) = 5 then (vinculumlaw26_AtomBinary.j2 k x3 x5 (rd x3 (wrap64 (x5 + 1))) false x381000 x381001) else (vinculumlaw26_AtomBinary.j2 k x3 x5 (rd x3 (wrap64 (x5 + 1))) ((rd x3 (wrap64 (x5 - 1))) != 7) x381000 x381001))) else (none)) else (none)) else (none)) else (none))
def vinculumlaw26_AtomBinary.j2 : Nat → List Int → Int → Int → Bool → List (S59) → List (S25) → Option (Bool)
  | 0, _, _, _, _, _, _ => none
  | k + 1, x3, x5, x7, x65, x381000, x381001 => if x65 = true then (some false) else (if x7 = 0 then (vinculumlaw26_AtomBinary.l0 k x3 (wrap64 (x5 + 1)) x381000 x381001) else (if x7 = 1 then (vinculumlaw26_AtomBinary.l0 k x3 (wrap64 (x5 + 1)) x381000 x381001) else (if x7 = 4 then (vinculumlaw26_AtomBinary.l0 k x3 (wrap64 (x5 + 1)) x381000 x381001) else (if x7 = 7 then (vinculumlaw26_AtomBinary.l0 k x3 (wrap64 (x5 + 1)) x381000 x381001) else (some false)))))
end
def vinculumlaw26_AtomBinary.f (k : Nat) (l0_0 : List (S59)) (l0_1 : List (S25)) : Option (Bool) := (vinculumlaw26_awake.f k).bind fun t381 => (if t381 = true then ((vinculumlaw26_few.f k l0_0 l0_1).bind fun t382 => (if t382 = true then ((atom_Classes.f k l0_0 l0_1).bind fun bt383 => (if bt383.2 = 0 then (vinculumlaw26_AtomBinary.l0 k bt383.1 0 l0_0 l0_1) else (some ((bt383.1.length : Int) == 0)))) else (some true))) else (some false))
set_option maxHeartbeats 8000000 in
set_option maxRecDepth 100000 in
theorem vinculumlaw26_AtomBinary.calls (k : Nat) (A0_0 : Option Addr) (c0_0 : Nat) (l0_0 : List (S59)) (A0_1 : Option Addr) (c0_1 : Nat) (l0_1 : List (S25)) (r : Bool) (w : World) (hr0_0 : Kd.C k59 w A0_0 l0_0.length l0_0) (hc0_0 : l0_0.length ≤ c0_0) (hr0_1 : Kd.C k25 w A0_1 l0_1.length l0_1) (hc0_1 : l0_1.length ≤ c0_1) (h : vinculumlaw26_AtomBinary.f k l0_0 l0_1 = some r) :
    Calls Tryd.prog 5 #[.agg #[.slice A0_0 l0_0.length c0_0, .slice A0_1 l0_1.length c0_1]] w fun e w' => e = .returned (.bool r) ∧ Below w.heap.size w w' := by
  have hu45 := Tryd.underlying45
  have HR0_0 := Aside0.mk hr0_0
  have HC0_0 := Aside0.mk hc0_0
  clear hr0_0 hc0_0
  have HR0_1 := Aside0.mk hr0_1
  have HC0_1 := Aside0.mk hc0_1
  clear hr0_1 hc0_1
  have HB := Aside0.mk (Below.refl w.heap.size w)
  have H : ((vinculumlaw26_awake.f k).bind fun t381 => (if t381 = true then ((vinculumlaw26_few.f k l0_0 l0_1).bind fun t382 => (if t382 = true then ((atom_Classes.f k l0_0 l0_1).bind fun bt383 => (if bt383.2 = 0 then (vinculumlaw26_AtomBinary.l0 k bt383.1 0 l0_0 l0_1) else (some ((bt383.1.length : Int) == 0)))) else (some true))) else (some false))) = some r := h
  clear h
  replace H := Option.bind_eq_some_iff.mp H
  obtain ⟨t381, A20, H⟩ := H
  replace H : (if t381 = true then ((vinculumlaw26_few.f k l0_0 l0_1).bind fun t382 => (if t382 = true then ((atom_Classes.f k l0_0 l0_1).bind fun bt383 => (if bt383.2 = 0 then (vinculumlaw26_AtomBinary.l0 k bt383.1 0 l0_0 l0_1) else (some ((bt383.1.length : Int) == 0)))) else (some true))) else (some false)) = some r := H
  have A2 := Aside0.mk A20
  clear A20
  by_cases c3 : t381 = true
  · subst c3
    have H1 : ((vinculumlaw26_few.f k l0_0 l0_1).bind fun t382 => (if t382 = true then ((atom_Classes.f k l0_0 l0_1).bind fun bt383 => (if bt383.2 = 0 then (vinculumlaw26_AtomBinary.l0 k bt383.1 0 l0_0 l0_1) else (some ((bt383.1.length : Int) == 0)))) else (some true))) = some r := by rw [if_pos rfl] at H; exact H
    clear H
    have H := H1
    clear H1
    replace H := Option.bind_eq_some_iff.mp H
    obtain ⟨t382, A40, H⟩ := H
    replace H : (if t382 = true then ((atom_Classes.f k l0_0 l0_1).bind fun bt383 => (if bt383.2 = 0 then (vinculumlaw26_AtomBinary.l0 k bt383.1 0 l0_0 l0_1) else (some ((bt383.1.length : Int) == 0)))) else (some true)) = some r := H
    have A4 := Aside0.mk A40
    clear A40
    by_cases c5 : t382 = true
    · subst c5
      have H1 : ((atom_Classes.f k l0_0 l0_1).bind fun bt383 => (if bt383.2 = 0 then (vinculumlaw26_AtomBinary.l0 k bt383.1 0 l0_0 l0_1) else (some ((bt383.1.length : Int) == 0)))) = some r := by rw [if_pos rfl] at H; exact H
      clear H
      have H := H1
      clear H1
      replace H := Option.bind_eq_some_iff.mp H
      obtain ⟨⟨t383, t384⟩, A60, H⟩ := H
      replace H : (if t384 = 0 then (vinculumlaw26_AtomBinary.l0 k t383 0 l0_0 l0_1) else (some ((t383.length : Int) == 0))) = some r := H
      have A6 := Aside0.mk A60
      clear A60
      by_cases c7 : t384 = 0
      · rw [if_pos c7] at H
        have c7b0 : (t384 == 0) = true := beq_iff_eq.mpr c7
        have c7b1 : (t384 != 0) = false := bne_eq_false_iff_eq.mpr c7
        clear c7
        have H' := Aside0.mk H
        clear H
        go_enter Tryd.func5, Tryd.ntmps5
        go_wp2_with (first | ((with_reducible refine gate_dst (N := 1) rfl ?_); (try (refine gate_guard (by rfl) ?_; dsimp only)); refine box_event ?hg (N := 1) ?hd (cs := #[.slice A0_0 l0_0.length c0_0, .slice A0_1 l0_1.length c0_1]) (t := 45) ?hr ?_; (case hd => rfl); (case hg => rfl); (case hr => first | (go_simp; done) | (go_simp; rfl)); intro gb380 hg w8 hbox hb; have n0_ := Aside0.mk (below_step (by repeat (first | (with_reducible first | exact HB.out | apply below_alloc | apply pw_below_drewN | apply below_drew1) | exact HB.out)) hb); have n1_ := Aside0.mk (hbox); have n2_ := Aside0.mk ((by rw [hg]; exact (below_size (by repeat (first | (with_reducible first | exact HB.out | apply below_alloc | apply pw_below_drewN | apply below_drew1) | exact HB.out))) : w.heap.size ≤ gb380)); have n3_ := Aside0.mk ((by rw [hg]; exact (below_size (by repeat (first | (with_reducible first | exact HB.out | apply below_alloc | apply pw_below_drewN | apply below_drew1) | exact HB.out))) : w.heap.size ≤ gb380)); clear HB; have HB := n0_; have BK380 := n1_; have GW380 := n2_; have GE380 := n3_; clear n0_ n1_ n2_ n3_; clear hb hbox hg) | (go_at_call 9; (with_reducible refine (vinculumlaw26_awake.calls k  true _ A2.out).mono ?_); rintro e w9 ⟨rfl, hb⟩; have n0_ := Aside0.mk (blk_below (g := gb380) (o := .cells #[.slice A0_0 l0_0.length c0_0, .slice A0_1 l0_1.length c0_1] 45 (0, 0)) (by (with_reducible repeat (first | refine blk_drewN ?_ _ | refine blk_drew ?_ | refine blk_alloc ?_ _)); exact BK380.out) hb); have n1_ := Aside0.mk (below_step (by repeat (first | (with_reducible first | exact HB.out | apply below_alloc | apply pw_below_drewN | apply below_drew1 | refine below_set ?_ GE380.out) | exact HB.out)) hb); clear BK380; clear HB; have BK380 := n0_; have HB := n1_; clear n0_ n1_; (try clear hb); (try clear hb2); (try clear hk); (try clear hi); have hcz10_0 : w9.cell? ⟨gb380, 0, none⟩ = some (.slice A0_0 l0_0.length c0_0) := (blk_cell BK380.out 0).trans rfl; have hcz10_1 : w9.cell? ⟨gb380, 1, none⟩ = some (.slice A0_1 l0_1.length c0_1) := (blk_cell BK380.out 1).trans rfl; have hfz10_0 := blk_frozen BK380.out 0; have hfz10_1 := blk_frozen BK380.out 1) | (go_at_call 16; (with_reducible refine (vinculumlaw26_few.calls k _ _ l0_0 _ _ l0_1 true _ ?side1 ?side2 ?side3 ?side4 A4.out).mono ?_); (case side1 => repeat (first | exact (Kd.C_below HR0_0.out HB.out) | (with_reducible refine Kd.C_alloc ?_ _) | (with_reducible refine Kd.C_drewN ?_ _) | (with_reducible refine Kd.C_drew ?_))); (case side2 => exact HC0_0.out); (case side3 => repeat (first | exact (Kd.C_below HR0_1.out HB.out) | (with_reducible refine Kd.C_alloc ?_ _) | (with_reducible refine Kd.C_drewN ?_ _) | (with_reducible refine Kd.C_drew ?_))); (case side4 => exact HC0_1.out); rintro e w11 ⟨rfl, hb⟩; have n0_ := Aside0.mk (blk_below (g := gb380) (o := .cells #[.slice A0_0 l0_0.length c0_0, .slice A0_1 l0_1.length c0_1] 45 (0, 0)) (by (with_reducible repeat (first | refine blk_drewN ?_ _ | refine blk_drew ?_ | refine blk_alloc ?_ _)); exact BK380.out) hb); have n1_ := Aside0.mk (below_step (by repeat (first | (with_reducible first | exact HB.out | apply below_alloc | apply pw_below_drewN | apply below_drew1 | refine below_set ?_ GE380.out) | exact HB.out)) hb); clear BK380; clear HB; have BK380 := n0_; have HB := n1_; clear n0_ n1_; (try clear hb); (try clear hb2); (try clear hk); (try clear hi); have hcz12_0 : w11.cell? ⟨gb380, 0, none⟩ = some (.slice A0_0 l0_0.length c0_0) := (blk_cell BK380.out 0).trans rfl; have hcz12_1 : w11.cell? ⟨gb380, 1, none⟩ = some (.slice A0_1 l0_1.length c0_1) := (blk_cell BK380.out 1).trans rfl; have hfz12_0 := blk_frozen BK380.out 0; have hfz12_1 := blk_frozen BK380.out 1) | (go_at_call 17; (with_reducible refine (atom_Classes.calls k _ _ l0_0 _ _ l0_1 t383 t384 _ ?side1 ?side2 ?side3 ?side4 A6.out).mono ?_); (case side1 => repeat (first | exact (Kd.C_below HR0_0.out HB.out) | (with_reducible refine Kd.C_alloc ?_ _) | (with_reducible refine Kd.C_drewN ?_ _) | (with_reducible refine Kd.C_drew ?_))); (case side2 => exact HC0_0.out); (case side3 => repeat (first | exact (Kd.C_below HR0_1.out HB.out) | (with_reducible refine Kd.C_alloc ?_ _) | (with_reducible refine Kd.C_drewN ?_ _) | (with_reducible refine Kd.C_drew ?_))); (case side4 => exact HC0_1.out); rintro e w13 ⟨v385, rfl, ho0, hb⟩; have n0_ := Aside0.mk (Kd.R_lower ho0 (below_size (by repeat (first | (with_reducible first | exact HB.out | apply below_alloc | apply pw_below_drewN | apply below_drew1 | refine below_set ?_ GE380.out) | exact HB.out)))); have n1_ := Aside0.mk (blk_below (g := gb380) (o := .cells #[.slice A0_0 l0_0.length c0_0, .slice A0_1 l0_1.length c0_1] 45 (0, 0)) (by (with_reducible repeat (first | refine blk_drewN ?_ _ | refine blk_drew ?_ | refine blk_alloc ?_ _)); exact BK380.out) hb); have n2_ := Aside0.mk (below_step (by repeat (first | (with_reducible first | exact HB.out | apply below_alloc | apply pw_below_drewN | apply below_drew1 | refine below_set ?_ GE380.out) | exact HB.out)) hb); clear BK380; clear HB; have HO386 := n0_; have BK380 := n1_; have HB := n2_; clear n0_ n1_ n2_; (try clear hb); (try clear hb2); (try clear hk); (try clear hi); (try clear ho0)))
        repeat (go_quiet (first | ((with_reducible refine gate_dst (N := 1) rfl ?_); (try (refine gate_guard (by rfl) ?_; dsimp only)); refine box_event ?hg (N := 1) ?hd (cs := #[.slice A0_0 l0_0.length c0_0, .slice A0_1 l0_1.length c0_1]) (t := 45) ?hr ?_; (case hd => rfl); (case hg => rfl); (case hr => first | (go_simp; done) | (go_simp; rfl)); intro gb380 hg w8 hbox hb; have n0_ := Aside0.mk (below_step (by repeat (first | (with_reducible first | exact HB.out | apply below_alloc | apply pw_below_drewN | apply below_drew1) | exact HB.out)) hb); have n1_ := Aside0.mk (hbox); have n2_ := Aside0.mk ((by rw [hg]; exact (below_size (by repeat (first | (with_reducible first | exact HB.out | apply below_alloc | apply pw_below_drewN | apply below_drew1) | exact HB.out))) : w.heap.size ≤ gb380)); have n3_ := Aside0.mk ((by rw [hg]; exact (below_size (by repeat (first | (with_reducible first | exact HB.out | apply below_alloc | apply pw_below_drewN | apply below_drew1) | exact HB.out))) : w.heap.size ≤ gb380)); clear HB; have HB := n0_; have BK380 := n1_; have GW380 := n2_; have GE380 := n3_; clear n0_ n1_ n2_ n3_; clear hb hbox hg) | (go_at_call 9; (with_reducible refine (vinculumlaw26_awake.calls k  true _ A2.out).mono ?_); rintro e w9 ⟨rfl, hb⟩; have n0_ := Aside0.mk (blk_below (g := gb380) (o := .cells #[.slice A0_0 l0_0.length c0_0, .slice A0_1 l0_1.length c0_1] 45 (0, 0)) (by (with_reducible repeat (first | refine blk_drewN ?_ _ | refine blk_drew ?_ | refine blk_alloc ?_ _)); exact BK380.out) hb); have n1_ := Aside0.mk (below_step (by repeat (first | (with_reducible first | exact HB.out | apply below_alloc | apply pw_below_drewN | apply below_drew1 | refine below_set ?_ GE380.out) | exact HB.out)) hb); clear BK380; clear HB; have BK380 := n0_; have HB := n1_; clear n0_ n1_; (try clear hb); (try clear hb2); (try clear hk); (try clear hi); have hcz10_0 : w9.cell? ⟨gb380, 0, none⟩ = some (.slice A0_0 l0_0.length c0_0) := (blk_cell BK380.out 0).trans rfl; have hcz10_1 : w9.cell? ⟨gb380, 1, none⟩ = some (.slice A0_1 l0_1.length c0_1) := (blk_cell BK380.out 1).trans rfl; have hfz10_0 := blk_frozen BK380.out 0; have hfz10_1 := blk_frozen BK380.out 1) | (go_at_call 16; (with_reducible refine (vinculumlaw26_few.calls k _ _ l0_0 _ _ l0_1 true _ ?side1 ?side2 ?side3 ?side4 A4.out).mono ?_); (case side1 => repeat (first | exact (Kd.C_below HR0_0.out HB.out) | (with_reducible refine Kd.C_alloc ?_ _) | (with_reducible refine Kd.C_drewN ?_ _) | (with_reducible refine Kd.C_drew ?_))); (case side2 => exact HC0_0.out); (case side3 => repeat (first | exact (Kd.C_below HR0_1.out HB.out) | (with_reducible refine Kd.C_alloc ?_ _) | (with_reducible refine Kd.C_drewN ?_ _) | (with_reducible refine Kd.C_drew ?_))); (case side4 => exact HC0_1.out); rintro e w11 ⟨rfl, hb⟩; have n0_ := Aside0.mk (blk_below (g := gb380) (o := .cells #[.slice A0_0 l0_0.length c0_0, .slice A0_1 l0_1.length c0_1] 45 (0, 0)) (by (with_reducible repeat (first | refine blk_drewN ?_ _ | refine blk_drew ?_ | refine blk_alloc ?_ _)); exact BK380.out) hb); have n1_ := Aside0.mk (below_step (by repeat (first | (with_reducible first | exact HB.out | apply below_alloc | apply pw_below_drewN | apply below_drew1 | refine below_set ?_ GE380.out) | exact HB.out)) hb); clear BK380; clear HB; have BK380 := n0_; have HB := n1_; clear n0_ n1_; (try clear hb); (try clear hb2); (try clear hk); (try clear hi); have hcz12_0 : w11.cell? ⟨gb380, 0, none⟩ = some (.slice A0_0 l0_0.length c0_0) := (blk_cell BK380.out 0).trans rfl; have hcz12_1 : w11.cell? ⟨gb380, 1, none⟩ = some (.slice A0_1 l0_1.length c0_1) := (blk_cell BK380.out 1).trans rfl; have hfz12_0 := blk_frozen BK380.out 0; have hfz12_1 := blk_frozen BK380.out 1) | (go_at_call 17; (with_reducible refine (atom_Classes.calls k _ _ l0_0 _ _ l0_1 t383 t384 _ ?side1 ?side2 ?side3 ?side4 A6.out).mono ?_); (case side1 => repeat (first | exact (Kd.C_below HR0_0.out HB.out) | (with_reducible refine Kd.C_alloc ?_ _) | (with_reducible refine Kd.C_drewN ?_ _) | (with_reducible refine Kd.C_drew ?_))); (case side2 => exact HC0_0.out); (case side3 => repeat (first | exact (Kd.C_below HR0_1.out HB.out) | (with_reducible refine Kd.C_alloc ?_ _) | (with_reducible refine Kd.C_drewN ?_ _) | (with_reducible refine Kd.C_drew ?_))); (case side4 => exact HC0_1.out); rintro e w13 ⟨v385, rfl, ho0, hb⟩; have n0_ := Aside0.mk (Kd.R_lower ho0 (below_size (by repeat (first | (with_reducible first | exact HB.out | apply below_alloc | apply pw_below_drewN | apply below_drew1 | refine below_set ?_ GE380.out) | exact HB.out)))); have n1_ := Aside0.mk (blk_below (g := gb380) (o := .cells #[.slice A0_0 l0_0.length c0_0, .slice A0_1 l0_1.length c0_1] 45 (0, 0)) (by (with_reducible repeat (first | refine blk_drewN ?_ _ | refine blk_drew ?_ | refine blk_alloc ?_ _)); exact BK380.out) hb); have n2_ := Aside0.mk (below_step (by repeat (first | (with_reducible first | exact HB.out | apply below_alloc | apply pw_below_drewN | apply below_drew1 | refine below_set ?_ GE380.out) | exact HB.out)) hb); clear BK380; clear HB; have HO386 := n0_; have BK380 := n1_; have HB := n2_; clear n0_ n1_ n2_; (try clear hb); (try clear hb2); (try clear hk); (try clear hi); (try clear ho0))); try go_wp2_with (first | ((with_reducible refine gate_dst (N := 1) rfl ?_); (try (refine gate_guard (by rfl) ?_; dsimp only)); refine box_event ?hg (N := 1) ?hd (cs := #[.slice A0_0 l0_0.length c0_0, .slice A0_1 l0_1.length c0_1]) (t := 45) ?hr ?_; (case hd => rfl); (case hg => rfl); (case hr => first | (go_simp; done) | (go_simp; rfl)); intro gb380 hg w8 hbox hb; have n0_ := Aside0.mk (below_step (by repeat (first | (with_reducible first | exact HB.out | apply below_alloc | apply pw_below_drewN | apply below_drew1) | exact HB.out)) hb); have n1_ := Aside0.mk (hbox); have n2_ := Aside0.mk ((by rw [hg]; exact (below_size (by repeat (first | (with_reducible first | exact HB.out | apply below_alloc | apply pw_below_drewN | apply below_drew1) | exact HB.out))) : w.heap.size ≤ gb380)); have n3_ := Aside0.mk ((by rw [hg]; exact (below_size (by repeat (first | (with_reducible first | exact HB.out | apply below_alloc | apply pw_below_drewN | apply below_drew1) | exact HB.out))) : w.heap.size ≤ gb380)); clear HB; have HB := n0_; have BK380 := n1_; have GW380 := n2_; have GE380 := n3_; clear n0_ n1_ n2_ n3_; clear hb hbox hg) | (go_at_call 9; (with_reducible refine (vinculumlaw26_awake.calls k  true _ A2.out).mono ?_); rintro e w9 ⟨rfl, hb⟩; have n0_ := Aside0.mk (blk_below (g := gb380) (o := .cells #[.slice A0_0 l0_0.length c0_0, .slice A0_1 l0_1.length c0_1] 45 (0, 0)) (by (with_reducible repeat (first | refine blk_drewN ?_ _ | refine blk_drew ?_ | refine blk_alloc ?_ _)); exact BK380.out) hb); have n1_ := Aside0.mk (below_step (by repeat (first | (with_reducible first | exact HB.out | apply below_alloc | apply pw_below_drewN | apply below_drew1 | refine below_set ?_ GE380.out) | exact HB.out)) hb); clear BK380; clear HB; have BK380 := n0_; have HB := n1_; clear n0_ n1_; (try clear hb); (try clear hb2); (try clear hk); (try clear hi); have hcz10_0 : w9.cell? ⟨gb380, 0, none⟩ = some (.slice A0_0 l0_0.length c0_0) := (blk_cell BK380.out 0).trans rfl; have hcz10_1 : w9.cell? ⟨gb380, 1, none⟩ = some (.slice A0_1 l0_1.length c0_1) := (blk_cell BK380.out 1).trans rfl; have hfz10_0 := blk_frozen BK380.out 0; have hfz10_1 := blk_frozen BK380.out 1) | (go_at_call 16; (with_reducible refine (vinculumlaw26_few.calls k _ _ l0_0 _ _ l0_1 true _ ?side1 ?side2 ?side3 ?side4 A4.out).mono ?_); (case side1 => repeat (first | exact (Kd.C_below HR0_0.out HB.out) | (with_reducible refine Kd.C_alloc ?_ _) | (with_reducible refine Kd.C_drewN ?_ _) | (with_reducible refine Kd.C_drew ?_))); (case side2 => exact HC0_0.out); (case side3 => repeat (first | exact (Kd.C_below HR0_1.out HB.out) | (with_reducible refine Kd.C_alloc ?_ _) | (with_reducible refine Kd.C_drewN ?_ _) | (with_reducible refine Kd.C_drew ?_))); (case side4 => exact HC0_1.out); rintro e w11 ⟨rfl, hb⟩; have n0_ := Aside0.mk (blk_below (g := gb380) (o := .cells #[.slice A0_0 l0_0.length c0_0, .slice A0_1 l0_1.length c0_1] 45 (0, 0)) (by (with_reducible repeat (first | refine blk_drewN ?_ _ | refine blk_drew ?_ | refine blk_alloc ?_ _)); exact BK380.out) hb); have n1_ := Aside0.mk (below_step (by repeat (first | (with_reducible first | exact HB.out | apply below_alloc | apply pw_below_drewN | apply below_drew1 | refine below_set ?_ GE380.out) | exact HB.out)) hb); clear BK380; clear HB; have BK380 := n0_; have HB := n1_; clear n0_ n1_; (try clear hb); (try clear hb2); (try clear hk); (try clear hi); have hcz12_0 : w11.cell? ⟨gb380, 0, none⟩ = some (.slice A0_0 l0_0.length c0_0) := (blk_cell BK380.out 0).trans rfl; have hcz12_1 : w11.cell? ⟨gb380, 1, none⟩ = some (.slice A0_1 l0_1.length c0_1) := (blk_cell BK380.out 1).trans rfl; have hfz12_0 := blk_frozen BK380.out 0; have hfz12_1 := blk_frozen BK380.out 1) | (go_at_call 17; (with_reducible refine (atom_Classes.calls k _ _ l0_0 _ _ l0_1 t383 t384 _ ?side1 ?side2 ?side3 ?side4 A6.out).mono ?_); (case side1 => repeat (first | exact (Kd.C_below HR0_0.out HB.out) | (with_reducible refine Kd.C_alloc ?_ _) | (with_reducible refine Kd.C_drewN ?_ _) | (with_reducible refine Kd.C_drew ?_))); (case side2 => exact HC0_0.out); (case side3 => repeat (first | exact (Kd.C_below HR0_1.out HB.out) | (with_reducible refine Kd.C_alloc ?_ _) | (with_reducible refine Kd.C_drewN ?_ _) | (with_reducible refine Kd.C_drew ?_))); (case side4 => exact HC0_1.out); rintro e w13 ⟨v385, rfl, ho0, hb⟩; have n0_ := Aside0.mk (Kd.R_lower ho0 (below_size (by repeat (first | (with_reducible first | exact HB.out | apply below_alloc | apply pw_below_drewN | apply below_drew1 | refine below_set ?_ GE380.out) | exact HB.out)))); have n1_ := Aside0.mk (blk_below (g := gb380) (o := .cells #[.slice A0_0 l0_0.length c0_0, .slice A0_1 l0_1.length c0_1] 45 (0, 0)) (by (with_reducible repeat (first | refine blk_drewN ?_ _ | refine blk_drew ?_ | refine blk_alloc ?_ _)); exact BK380.out) hb); have n2_ := Aside0.mk (below_step (by repeat (first | (with_reducible first | exact HB.out | apply below_alloc | apply pw_below_drewN | apply below_drew1 | refine below_set ?_ GE380.out) | exact HB.out)) hb); clear BK380; clear HB; have HO386 := n0_; have BK380 := n1_; have HB := n2_; clear n0_ n1_ n2_; (try clear hb); (try clear hb2); (try clear hk); (try clear hi); (try clear ho0))))
        go_loopg [5] k (fun kq v5 w' => ∃ (x5_1 : Int), v5 = .int .i64 x5_1 ∧ Aside0 (vinculumlaw26_AtomBinary.l0 kq t383 x5_1 l0_0 l0_1 = some r) ∧ Aside0 (kq ≤ k) ∧ Aside0 (Kd.R (Kd.int .i64) 3 w' w.heap.size (fun _ => True) v385 t383) ∧ Aside0 (w'.heap[gb380]? = some (.cells #[(.slice A0_0 l0_0.length c0_0), (.slice A0_1 l0_1.length c0_1)] 45 (0, 0))) ∧ Aside0 (Below w.heap.size w w'))
        case atStart => exact ⟨(0), (by first | rfl | (simp; done) | (simp [*]; done)), H', ⟨Nat.le_refl _⟩, ⟨by (with_reducible repeat (first | apply Kd.R_alloc | apply Kd.R_drewN | apply Kd.R_drew)); exact HO386.out⟩, ⟨by (with_reducible repeat (first | refine blk_drewN ?_ _ | refine blk_drew ?_ | refine blk_alloc ?_ _)); exact BK380.out⟩, ⟨by repeat (first | (with_reducible first | exact HB.out | apply below_alloc | apply pw_below_drewN | apply below_drew1 | refine below_set ?_ GE380.out) | exact HB.out)⟩⟩
        case round =>
          clear H'
          try clear p2
          try clear c3
          try clear c5
          try clear c7
          try clear c7b0
          try clear c7b1
          try clear hcz10_0
          try clear hcz10_1
          try clear hcz12_0
          try clear hcz12_1
          try clear hfz10_0
          try clear hfz10_1
          try clear hfz12_0
          try clear hfz12_1
          obtain ⟨x5_1, rfl, HA, HK1, HO_3, BK380, HB⟩ := hrel
          cases gk with
          | zero => exact absurd HA.out (by simp [vinculumlaw26_AtomBinary.l0])
          | succ k1 =>
            have H := HA.out
            clear HA
            simp only [vinculumlaw26_AtomBinary.l0] at H
            by_cases c14 : x5_1 < (t383.length : Int)
            · rw [if_pos c14] at H
              have c14b0 : decide (x5_1 < (t383.length : Int)) = true := decide_eq_true c14
              clear c14
              by_cases c15 : 0 ≤ x5_1
              · rw [if_pos c15] at H
                have c15b0 : decide (0 ≤ x5_1) = true := decide_eq_true c15
                clear c15
                by_cases c16 : (rd t383 x5_1) = 2
                · rw [if_pos c16] at H
                  have c16b0 : ((rd t383 x5_1) == 2) = true := beq_iff_eq.mpr c16
                  have c16b1 : ((rd t383 x5_1) != 2) = false := bne_eq_false_iff_eq.mpr c16
                  clear c16
                  have HC17 := Aside0.mk H
                  clear H
                  obtain ⟨Ao18, co18, eo18⟩ := Kd.R_slice HO_3.out
                  subst eo18
                  have p387 : 0 ≤ (x5_1 : Int) := of_decide_eq_true (by first | (with_reducible assumption) | assumption)
                  have q387 : x5_1 < (t383.length : Int) := of_decide_eq_true (by first | (with_reducible assumption) | assumption)
                  obtain ⟨ad387, e387, hx387_0⟩ := Kd.at_int (Kd.R_reads' HO_3.out).2.2 x5_1 p387 q387
                  cases e387
                  replace p387 := eq_true p387
                  replace q387 := eq_true q387
                  go_upto_region 12 with (fail)
                  repeat (go_quiet (fail); go_upto_region 12 with (fail))
                  go_cut [45] (fun v45 wc => ∃ (kq : Nat) (x45_16 : Bool), v45 = .bool x45_16 ∧ Aside0 (vinculumlaw26_AtomBinary.j1 kq t383 x5_1 x45_16 l0_0 l0_1 = some r) ∧ Aside0 (kq ≤ k1) ∧ Aside0 (Kd.R (Kd.int .i64) 3 wc w.heap.size (fun _ => True) (.slice (some ad387) t383.length co18) t383) ∧ Aside0 (wc.heap[gb380]? = some (.cells #[(.slice A0_0 l0_0.length c0_0), (.slice A0_1 l0_1.length c0_1)] 45 (0, 0))) ∧ Aside0 (Below w.heap.size w wc))
                  case first =>
                    have H := HC17.out
                    clear HC17
                    by_cases c19 : x5_1 = 0
                    · rw [if_pos c19] at H
                      have c19b0 : (x5_1 == 0) = true := beq_iff_eq.mpr c19
                      have c19b1 : (x5_1 != 0) = false := bne_eq_false_iff_eq.mpr c19
                      clear c19
                      (first | rw [c19b0] | (simp only [i64_w, i32_w]; rw [c19b0]) | skip)
                      have H' := Aside0.mk H
                      clear H
                      go_wp2
                      repeat (go_quiet (fail); try go_wp2)
                      go_meet
                      case rel => exact ⟨_, (true), (by first | rfl | (simp; done) | (simp [*]; done)), H', ⟨by have := HK1.out; first | omega | exact Nat.le_refl _⟩, ⟨by (with_reducible repeat (first | apply Kd.R_alloc | apply Kd.R_drewN | apply Kd.R_drew)); exact HO_3.out⟩, ⟨by (with_reducible repeat (first | refine blk_drewN ?_ _ | refine blk_drew ?_ | refine blk_alloc ?_ _)); exact BK380.out⟩, ⟨by repeat (first | (with_reducible first | exact HB.out | apply below_alloc | apply pw_below_drewN | apply below_drew1 | refine below_set ?_ GE380.out) | exact HB.out)⟩⟩
                    · rw [if_neg c19] at H
                      have c19b0 : (x5_1 == 0) = false := beq_eq_false_iff_ne.mpr c19
                      have c19b1 : (x5_1 != 0) = true := bne_iff_ne.mpr c19
                      (first | rw [c19b0] | (simp only [i64_w, i32_w]; rw [c19b0]) | skip)
                      have H' := Aside0.mk H
                      clear H
                      go_wp2
                      repeat (go_quiet (fail); try go_wp2)
                      go_meet
                      case rel => exact ⟨_, ((x5_1 == (wrap64 ((t383.length : Int) - 1)))), (by first | rfl | (simp; done) | (simp [*]; done)), H', ⟨by have := HK1.out; first | omega | exact Nat.le_refl _⟩, ⟨by (with_reducible repeat (first | apply Kd.R_alloc | apply Kd.R_drewN | apply Kd.R_drew)); exact HO_3.out⟩, ⟨by (with_reducible repeat (first | refine blk_drewN ?_ _ | refine blk_drew ?_ | refine blk_alloc ?_ _)); exact BK380.out⟩, ⟨by repeat (first | (with_reducible first | exact HB.out | apply below_alloc | apply pw_below_drewN | apply below_drew1 | refine below_set ?_ GE380.out) | exact HB.out)⟩⟩
                  case rest =>
                    clear HC17
                    try clear c1
                    try clear p2
                    try clear c3
                    try clear p3
                    try clear q3
                    try clear hx3
                    try clear c5
                    try clear p6
                    try clear c7
                    try clear c7b0
                    try clear c7b1
                    try clear c14
                    try clear c14b0
                    try clear c15
                    try clear c15b0
                    try clear c16
                    try clear c16b0
                    try clear c16b1
                    try clear c19
                    try clear c19b0
                    try clear c19b1
                    try clear hcz10_0
                    try clear hcz10_1
                    try clear hcz12_0
                    try clear hcz12_1
                    try clear hfz10_0
                    try clear hfz10_1
                    try clear hfz12_0
                    try clear hfz12_1
                    try clear hx387_0
                    try clear p2
                    try clear p387
                    try clear q387
                    obtain ⟨kq, x45_16, rfl, HA, HJ16, HO_3, BK380, HB⟩ := hcut
                    cases kq with
                    | zero => exact absurd HA.out (by simp [vinculumlaw26_AtomBinary.j1])
                    | succ kj16 =>
                      have H := HA.out
                      clear HA
                      simp only [vinculumlaw26_AtomBinary.j1] at H
                      by_cases c20 : x45_16 = true
                      · subst c20
                        have H1 : (some false) = some r := by rw [if_pos rfl] at H; exact H
                        clear H
                        have H := H1
                        clear H1
                        obtain rfl := Option.some.inj H
                        go_wp2
                        repeat (go_quiet (fail); try go_wp2)
                        go_ret
                        exact ⟨by first | rfl | (simp [errW_none, errW_some] <;> rfl) | (simp [*, errW_none, errW_some] <;> rfl), by repeat (first | (with_reducible first | exact HB.out | apply below_alloc | apply pw_below_drewN | apply below_drew1 | refine below_set ?_ GE380.out) | exact HB.out)⟩
                      · replace c20 := Bool.eq_false_iff.mpr c20
                        subst c20
                        have H1 : (if 0 ≤ (wrap64 (x5_1 - 1)) then (if (wrap64 (x5_1 - 1)) < (t383.length : Int) then (if 0 ≤ (wrap64 (x5_1 + 1)) then (if (wrap64 (x5_1 + 1)) < (t383.length : Int) then (if (rd t383 (wrap64 (x5_1 - 1))) = 0 then (vinculumlaw26_AtomBinary.j2 kj16 t383 x5_1 (rd t383 (wrap64 (x5_1 + 1))) false l0_0 l0_1) else (if (rd t383 (wrap64 (x5_1 - 1))) = 5 then (vinculumlaw26_AtomBinary.j2 kj16 t383 x5_1 (rd t383 (wrap64 (x5_1 + 1))) false l0_0 l0_1) else (vinculumlaw26_AtomBinary.j2 kj16 t383 x5_1 (rd t383 (wrap64 (x5_1 + 1))) ((rd t383 (wrap64 (x5_1 - 1))) != 7) l0_0 l0_1))) else (none)) else (none)) else (none)) else (none)) = some r := by rw [if_neg (show ¬ (false = true) by decide)] at H; exact H
                        clear H
                        have H := H1
                        clear H1
                        obtain ⟨ji21, hji21⟩ : ∃ j_ : Int, (wrap64 (x5_1 - 1)) = j_ := ⟨_, rfl⟩
                        replace H : (if 0 ≤ (ji21) then (if (ji21) < (t383.length : Int) then (if 0 ≤ (wrap64 (x5_1 + 1)) then (if (wrap64 (x5_1 + 1)) < (t383.length : Int) then (if (rd t383 (ji21)) = 0 then (vinculumlaw26_AtomBinary.j2 kj16 t383 x5_1 (rd t383 (wrap64 (x5_1 + 1))) false l0_0 l0_1) else (if (rd t383 (ji21)) = 5 then (vinculumlaw26_AtomBinary.j2 kj16 t383 x5_1 (rd t383 (wrap64 (x5_1 + 1))) false l0_0 l0_1) else (vinculumlaw26_AtomBinary.j2 kj16 t383 x5_1 (rd t383 (wrap64 (x5_1 + 1))) ((rd t383 (ji21)) != 7) l0_0 l0_1))) else (none)) else (none)) else (none)) else (none)) = some r := by first | (rw [hji21] at H; exact H) | (simp only [hji21] at H ⊢; exact H)
                        have hji21w : (IntKind.i64.wrap (x5_1 - 1)) = ji21 := (i64_w _).trans hji21
                        by_cases c22 : 0 ≤ (ji21)
                        · rw [if_pos c22] at H
                          have c22b0 : decide (0 ≤ (ji21)) = true := decide_eq_true c22
                          clear c22
                          by_cases c23 : (ji21) < (t383.length : Int)
                          · rw [if_pos c23] at H
                            have c23b0 : decide ((ji21) < (t383.length : Int)) = true := decide_eq_true c23
                            clear c23
                            obtain ⟨ji24, hji24⟩ : ∃ j_ : Int, (wrap64 (x5_1 + 1)) = j_ := ⟨_, rfl⟩
                            replace H : (if 0 ≤ (ji24) then (if (ji24) < (t383.length : Int) then (if (rd t383 (ji21)) = 0 then (vinculumlaw26_AtomBinary.j2 kj16 t383 x5_1 (rd t383 (ji24)) false l0_0 l0_1) else (if (rd t383 (ji21)) = 5 then (vinculumlaw26_AtomBinary.j2 kj16 t383 x5_1 (rd t383 (ji24)) false l0_0 l0_1) else (vinculumlaw26_AtomBinary.j2 kj16 t383 x5_1 (rd t383 (ji24)) ((rd t383 (ji21)) != 7) l0_0 l0_1))) else (none)) else (none)) = some r := by first | (rw [hji24] at H; exact H) | (simp only [hji24] at H ⊢; exact H)
                            have hji24w : (IntKind.i64.wrap (x5_1 + 1)) = ji24 := (i64_w _).trans hji24
                            by_cases c25 : 0 ≤ (ji24)
                            · rw [if_pos c25] at H
                              have c25b0 : decide (0 ≤ (ji24)) = true := decide_eq_true c25
                              clear c25
                              by_cases c26 : (ji24) < (t383.length : Int)
                              · rw [if_pos c26] at H
                                have c26b0 : decide ((ji24) < (t383.length : Int)) = true := decide_eq_true c26
                                clear c26
                                have HC27 := Aside0.mk H
                                clear H
                                have p388 : 0 ≤ ((ji21) : Int) := of_decide_eq_true (by first | (with_reducible assumption) | assumption)
                                have q388 : (ji21) < (t383.length : Int) := of_decide_eq_true (by first | (with_reducible assumption) | assumption)
                                obtain ⟨ad388, e388, hx388_0⟩ := Kd.at_int (Kd.R_reads' HO_3.out).2.2 (ji21) p388 q388
                                obtain rfl : ad387 = ad388 := (by injection e388)
                                replace p388 := eq_true p388
                                replace q388 := eq_true q388
                                have p389 : 0 ≤ ((ji24) : Int) := of_decide_eq_true (by first | (with_reducible assumption) | assumption)
                                have q389 : (ji24) < (t383.length : Int) := of_decide_eq_true (by first | (with_reducible assumption) | assumption)
                                obtain ⟨ad389, e389, hx389_0⟩ := Kd.at_int (Kd.R_reads' HO_3.out).2.2 (ji24) p389 q389
                                obtain rfl : ad387 = ad389 := (by injection e389)
                                replace p389 := eq_true p389
                                replace q389 := eq_true q389
                                go_upto_region 15 with (fail)
                                repeat (go_quiet (fail); go_upto_region 15 with (fail))
                                go_cut [65] (fun v65 wc => ∃ (kq : Nat) (x65_26 : Bool), v65 = .bool x65_26 ∧ Aside0 (vinculumlaw26_AtomBinary.j2 kq t383 x5_1 (rd t383 (ji24)) x65_26 l0_0 l0_1 = some r) ∧ Aside0 (kq ≤ kj16) ∧ Aside0 (Kd.R (Kd.int .i64) 3 wc w.heap.size (fun _ => True) (.slice (some ad387) t383.length co18) t383) ∧ Aside0 (wc.heap[gb380]? = some (.cells #[(.slice A0_0 l0_0.length c0_0), (.slice A0_1 l0_1.length c0_1)] 45 (0, 0))) ∧ Aside0 (Below w.heap.size w wc))
                                case first =>
                                  have H := HC27.out
                                  clear HC27
                                  by_cases c28 : (rd t383 (ji21)) = 0
                                  · rw [if_pos c28] at H
                                    have c28b0 : ((rd t383 (ji21)) == 0) = true := beq_iff_eq.mpr c28
                                    have c28b1 : ((rd t383 (ji21)) != 0) = false := bne_eq_false_iff_eq.mpr c28
                                    clear c28
                                    (first | rw [c28b0] | (simp only [i64_w, i32_w]; rw [c28b0]) | skip)
                                    have H' := Aside0.mk H
                                    clear H
                                    go_wp2
                                    repeat (go_quiet (fail); try go_wp2)
                                    go_meet
                                    case rel => exact ⟨_, (false), (by first | rfl | (simp; done) | (simp [*]; done)), H', ⟨by have := HK1.out; have := HJ16.out; first | omega | exact Nat.le_refl _⟩, ⟨by (with_reducible repeat (first | apply Kd.R_alloc | apply Kd.R_drewN | apply Kd.R_drew)); exact HO_3.out⟩, ⟨by (with_reducible repeat (first | refine blk_drewN ?_ _ | refine blk_drew ?_ | refine blk_alloc ?_ _)); exact BK380.out⟩, ⟨by repeat (first | (with_reducible first | exact HB.out | apply below_alloc | apply pw_below_drewN | apply below_drew1 | refine below_set ?_ GE380.out) | exact HB.out)⟩⟩
                                  · rw [if_neg c28] at H
                                    have c28b0 : ((rd t383 (ji21)) == 0) = false := beq_eq_false_iff_ne.mpr c28
                                    have c28b1 : ((rd t383 (ji21)) != 0) = true := bne_iff_ne.mpr c28
                                    (first | rw [c28b0] | (simp only [i64_w, i32_w]; rw [c28b0]) | skip)
                                    by_cases c29 : (rd t383 (ji21)) = 5
                                    · rw [if_pos c29] at H
                                      have c29b0 : ((rd t383 (ji21)) == 5) = true := beq_iff_eq.mpr c29
                                      have c29b1 : ((rd t383 (ji21)) != 5) = false := bne_eq_false_iff_eq.mpr c29
                                      clear c29
                                      have H' := Aside0.mk H
                                      clear H
                                      go_wp2
                                      repeat (go_quiet (fail); try go_wp2)
                                      go_meet
                                      case rel => exact ⟨_, (false), (by first | rfl | (simp; done) | (simp [*]; done)), H', ⟨by have := HK1.out; have := HJ16.out; first | omega | exact Nat.le_refl _⟩, ⟨by (with_reducible repeat (first | apply Kd.R_alloc | apply Kd.R_drewN | apply Kd.R_drew)); exact HO_3.out⟩, ⟨by (with_reducible repeat (first | refine blk_drewN ?_ _ | refine blk_drew ?_ | refine blk_alloc ?_ _)); exact BK380.out⟩, ⟨by repeat (first | (with_reducible first | exact HB.out | apply below_alloc | apply pw_below_drewN | apply below_drew1 | refine below_set ?_ GE380.out) | exact HB.out)⟩⟩
                                    · rw [if_neg c29] at H
                                      have c29b0 : ((rd t383 (ji21)) == 5) = false := beq_eq_false_iff_ne.mpr c29
                                      have c29b1 : ((rd t383 (ji21)) != 5) = true := bne_iff_ne.mpr c29
                                      have H' := Aside0.mk H
                                      clear H
                                      go_wp2
                                      repeat (go_quiet (fail); try go_wp2)
                                      go_meet
                                      case rel => exact ⟨_, (((rd t383 (ji21)) != 7)), (by first | rfl | (simp; done) | (simp only [← hji21] <;> (first | rfl | simp)) | (simp [*]; done)), H', ⟨by have := HK1.out; have := HJ16.out; first | omega | exact Nat.le_refl _⟩, ⟨by (with_reducible repeat (first | apply Kd.R_alloc | apply Kd.R_drewN | apply Kd.R_drew)); exact HO_3.out⟩, ⟨by (with_reducible repeat (first | refine blk_drewN ?_ _ | refine blk_drew ?_ | refine blk_alloc ?_ _)); exact BK380.out⟩, ⟨by repeat (first | (with_reducible first | exact HB.out | apply below_alloc | apply pw_below_drewN | apply below_drew1 | refine below_set ?_ GE380.out) | exact HB.out)⟩⟩
                                case rest =>
                                  clear HC27
                                  try clear c1
                                  try clear c2
                                  try clear p2
                                  try clear c3
                                  try clear p3
                                  try clear q3
                                  try clear hx3
                                  try clear c5
                                  try clear p6
                                  try clear c7
                                  try clear c7b0
                                  try clear c7b1
                                  try clear c14
                                  try clear c14b0
                                  try clear c15
                                  try clear c15b0
                                  try clear c16
                                  try clear c16b0
                                  try clear c16b1
                                  try clear c19
                                  try clear c19b0
                                  try clear c19b1
                                  try clear c20
                                  try clear c22
                                  try clear c22b0
                                  try clear c23
                                  try clear c23b0
                                  try clear c25
                                  try clear c25b0
                                  try clear c26
                                  try clear c26b0
                                  try clear c28
                                  try clear c28b0
                                  try clear c28b1
                                  try clear c29
                                  try clear c29b0
                                  try clear c29b1
                                  try clear hcz10_0
                                  try clear hcz10_1
                                  try clear hcz12_0
                                  try clear hcz12_1
                                  try clear hfz10_0
                                  try clear hfz10_1
                                  try clear hfz12_0
                                  try clear hfz12_1
                                  try clear hx387_0
                                  try clear hx388_0
                                  try clear hx389_0
                                  try clear p2
                                  try clear p3
                                  try clear p387
                                  try clear p388
                                  try clear p389
                                  try clear p6
                                  try clear q3
                                  try clear q387
                                  try clear q388
                                  try clear q389
                                  obtain ⟨kq, x65_26, rfl, HA, HJ26, HO_3, BK380, HB⟩ := hcut
                                  cases kq with
                                  | zero => exact absurd HA.out (by simp [vinculumlaw26_AtomBinary.j2])
                                  | succ kj26 =>
                                    have H := HA.out
                                    clear HA
                                    simp only [vinculumlaw26_AtomBinary.j2] at H
                                    by_cases c30 : x65_26 = true
                                    · subst c30
                                      have H1 : (some false) = some r := by rw [if_pos rfl] at H; exact H
                                      clear H
                                      have H := H1
                                      clear H1
                                      obtain rfl := Option.some.inj H
                                      go_wp2
                                      repeat (go_quiet (fail); try go_wp2)
                                      go_ret
                                      exact ⟨by first | rfl | (simp [errW_none, errW_some] <;> rfl) | (simp only [← hji21, ← hji24]; first | rfl | (simp [errW_none, errW_some] <;> rfl)) | (simp [*, errW_none, errW_some] <;> rfl), by repeat (first | (with_reducible first | exact HB.out | apply below_alloc | apply pw_below_drewN | apply below_drew1 | refine below_set ?_ GE380.out) | exact HB.out)⟩
                                    · replace c30 := Bool.eq_false_iff.mpr c30
                                      subst c30
                                      have H1 : (if (rd t383 (ji24)) = 0 then (vinculumlaw26_AtomBinary.l0 kj26 t383 (wrap64 (x5_1 + 1)) l0_0 l0_1) else (if (rd t383 (ji24)) = 1 then (vinculumlaw26_AtomBinary.l0 kj26 t383 (wrap64 (x5_1 + 1)) l0_0 l0_1) else (if (rd t383 (ji24)) = 4 then (vinculumlaw26_AtomBinary.l0 kj26 t383 (wrap64 (x5_1 + 1)) l0_0 l0_1) else (if (rd t383 (ji24)) = 7 then (vinculumlaw26_AtomBinary.l0 kj26 t383 (wrap64 (x5_1 + 1)) l0_0 l0_1) else (some false))))) = some r := by rw [if_neg (show ¬ (false = true) by decide)] at H; exact H
                                      clear H
                                      have H := H1
                                      clear H1
                                      by_cases c31 : (rd t383 (ji24)) = 0
                                      · rw [if_pos c31] at H
                                        have c31b0 : ((rd t383 (ji24)) == 0) = true := beq_iff_eq.mpr c31
                                        have c31b1 : ((rd t383 (ji24)) != 0) = false := bne_eq_false_iff_eq.mpr c31
                                        clear c31
                                        have H' := Aside0.mk H
                                        clear H
                                        go_wp2
                                        repeat (go_quiet (fail); try go_wp2)
                                        go_roundg kj26
                                        case measure => have := HK1.out; have := HJ16.out; have := HJ26.out; omega
                                        case rel => exact ⟨(wrap64 (x5_1 + 1)), (by first | rfl | (simp; done) | (simp [*]; done)), H', ⟨by have := HK1.out; have := HJ16.out; have := HJ26.out; omega⟩, ⟨by (with_reducible repeat (first | apply Kd.R_alloc | apply Kd.R_drewN | apply Kd.R_drew)); exact HO_3.out⟩, ⟨by (with_reducible repeat (first | refine blk_drewN ?_ _ | refine blk_drew ?_ | refine blk_alloc ?_ _)); exact BK380.out⟩, ⟨by repeat (first | (with_reducible first | exact HB.out | apply below_alloc | apply pw_below_drewN | apply below_drew1 | refine below_set ?_ GE380.out) | exact HB.out)⟩⟩
                                      · rw [if_neg c31] at H
                                        have c31b0 : ((rd t383 (ji24)) == 0) = false := beq_eq_false_iff_ne.mpr c31
                                        have c31b1 : ((rd t383 (ji24)) != 0) = true := bne_iff_ne.mpr c31
                                        by_cases c32 : (rd t383 (ji24)) = 1
                                        · rw [if_pos c32] at H
                                          have c32b0 : ((rd t383 (ji24)) == 1) = true := beq_iff_eq.mpr c32
                                          have c32b1 : ((rd t383 (ji24)) != 1) = false := bne_eq_false_iff_eq.mpr c32
                                          clear c32
                                          have H' := Aside0.mk H
                                          clear H
                                          go_wp2
                                          repeat (go_quiet (fail); try go_wp2)
                                          go_roundg kj26
                                          case measure => have := HK1.out; have := HJ16.out; have := HJ26.out; omega
                                          case rel => exact ⟨(wrap64 (x5_1 + 1)), (by first | rfl | (simp; done) | (simp [*]; done)), H', ⟨by have := HK1.out; have := HJ16.out; have := HJ26.out; omega⟩, ⟨by (with_reducible repeat (first | apply Kd.R_alloc | apply Kd.R_drewN | apply Kd.R_drew)); exact HO_3.out⟩, ⟨by (with_reducible repeat (first | refine blk_drewN ?_ _ | refine blk_drew ?_ | refine blk_alloc ?_ _)); exact BK380.out⟩, ⟨by repeat (first | (with_reducible first | exact HB.out | apply below_alloc | apply pw_below_drewN | apply below_drew1 | refine below_set ?_ GE380.out) | exact HB.out)⟩⟩
                                        · rw [if_neg c32] at H
                                          have c32b0 : ((rd t383 (ji24)) == 1) = false := beq_eq_false_iff_ne.mpr c32
                                          have c32b1 : ((rd t383 (ji24)) != 1) = true := bne_iff_ne.mpr c32
                                          by_cases c33 : (rd t383 (ji24)) = 4
                                          · rw [if_pos c33] at H
                                            have c33b0 : ((rd t383 (ji24)) == 4) = true := beq_iff_eq.mpr c33
                                            have c33b1 : ((rd t383 (ji24)) != 4) = false := bne_eq_false_iff_eq.mpr c33
                                            clear c33
                                            have H' := Aside0.mk H
                                            clear H
                                            go_wp2
                                            repeat (go_quiet (fail); try go_wp2)
                                            go_roundg kj26
                                            case measure => have := HK1.out; have := HJ16.out; have := HJ26.out; omega
                                            case rel => exact ⟨(wrap64 (x5_1 + 1)), (by first | rfl | (simp; done) | (simp [*]; done)), H', ⟨by have := HK1.out; have := HJ16.out; have := HJ26.out; omega⟩, ⟨by (with_reducible repeat (first | apply Kd.R_alloc | apply Kd.R_drewN | apply Kd.R_drew)); exact HO_3.out⟩, ⟨by (with_reducible repeat (first | refine blk_drewN ?_ _ | refine blk_drew ?_ | refine blk_alloc ?_ _)); exact BK380.out⟩, ⟨by repeat (first | (with_reducible first | exact HB.out | apply below_alloc | apply pw_below_drewN | apply below_drew1 | refine below_set ?_ GE380.out) | exact HB.out)⟩⟩
                                          · rw [if_neg c33] at H
                                            have c33b0 : ((rd t383 (ji24)) == 4) = false := beq_eq_false_iff_ne.mpr c33
                                            have c33b1 : ((rd t383 (ji24)) != 4) = true := bne_iff_ne.mpr c33
                                            by_cases c34 : (rd t383 (ji24)) = 7
                                            · rw [if_pos c34] at H
                                              have c34b0 : ((rd t383 (ji24)) == 7) = true := beq_iff_eq.mpr c34
                                              have c34b1 : ((rd t383 (ji24)) != 7) = false := bne_eq_false_iff_eq.mpr c34
                                              clear c34
                                              have H' := Aside0.mk H
                                              clear H
                                              go_wp2
                                              repeat (go_quiet (fail); try go_wp2)
                                              go_roundg kj26
                                              case measure => have := HK1.out; have := HJ16.out; have := HJ26.out; omega
                                              case rel => exact ⟨(wrap64 (x5_1 + 1)), (by first | rfl | (simp; done) | (simp [*]; done)), H', ⟨by have := HK1.out; have := HJ16.out; have := HJ26.out; omega⟩, ⟨by (with_reducible repeat (first | apply Kd.R_alloc | apply Kd.R_drewN | apply Kd.R_drew)); exact HO_3.out⟩, ⟨by (with_reducible repeat (first | refine blk_drewN ?_ _ | refine blk_drew ?_ | refine blk_alloc ?_ _)); exact BK380.out⟩, ⟨by repeat (first | (with_reducible first | exact HB.out | apply below_alloc | apply pw_below_drewN | apply below_drew1 | refine below_set ?_ GE380.out) | exact HB.out)⟩⟩
                                            · rw [if_neg c34] at H
                                              have c34b0 : ((rd t383 (ji24)) == 7) = false := beq_eq_false_iff_ne.mpr c34
                                              have c34b1 : ((rd t383 (ji24)) != 7) = true := bne_iff_ne.mpr c34
                                              obtain rfl := Option.some.inj H
                                              go_wp2
                                              repeat (go_quiet (fail); try go_wp2)
                                              go_ret
                                              exact ⟨by first | rfl | (simp [errW_none, errW_some] <;> rfl) | (simp only [← hji21, ← hji24]; first | rfl | (simp [errW_none, errW_some] <;> rfl)) | (simp [*, errW_none, errW_some] <;> rfl), by repeat (first | (with_reducible first | exact HB.out | apply below_alloc | apply pw_below_drewN | apply below_drew1 | refine below_set ?_ GE380.out) | exact HB.out)⟩
                              · rw [if_neg c26] at H
                                exact absurd H (by simp)
                            · rw [if_neg c25] at H
                              exact absurd H (by simp)
                          · rw [if_neg c23] at H
                            exact absurd H (by simp)
                        · rw [if_neg c22] at H
                          exact absurd H (by simp)
                · rw [if_neg c16] at H
                  have c16b0 : ((rd t383 x5_1) == 2) = false := beq_eq_false_iff_ne.mpr c16
                  have c16b1 : ((rd t383 x5_1) != 2) = true := bne_iff_ne.mpr c16
                  have H' := Aside0.mk H
                  clear H
                  obtain ⟨Ao35, co35, eo35⟩ := Kd.R_slice HO_3.out
                  subst eo35
                  have p387 : 0 ≤ (x5_1 : Int) := of_decide_eq_true (by first | (with_reducible assumption) | assumption)
                  have q387 : x5_1 < (t383.length : Int) := of_decide_eq_true (by first | (with_reducible assumption) | assumption)
                  obtain ⟨ad387, e387, hx387_0⟩ := Kd.at_int (Kd.R_reads' HO_3.out).2.2 x5_1 p387 q387
                  cases e387
                  replace p387 := eq_true p387
                  replace q387 := eq_true q387
                  go_wp2
                  repeat (go_quiet (fail); try go_wp2)
                  go_roundg k1
                  case measure => have := HK1.out; omega
                  case rel => exact ⟨(wrap64 (x5_1 + 1)), (by first | rfl | (simp; done) | (simp [*]; done)), H', ⟨by have := HK1.out; omega⟩, ⟨by (with_reducible repeat (first | apply Kd.R_alloc | apply Kd.R_drewN | apply Kd.R_drew)); exact HO_3.out⟩, ⟨by (with_reducible repeat (first | refine blk_drewN ?_ _ | refine blk_drew ?_ | refine blk_alloc ?_ _)); exact BK380.out⟩, ⟨by repeat (first | (with_reducible first | exact HB.out | apply below_alloc | apply pw_below_drewN | apply below_drew1 | refine below_set ?_ GE380.out) | exact HB.out)⟩⟩
              · rw [if_neg c15] at H
                exact absurd H (by simp)
            · rw [if_neg c14] at H
              have c14b0 : decide (x5_1 < (t383.length : Int)) = false := decide_eq_false c14
              clear c14
              obtain rfl := Option.some.inj H
              obtain ⟨Ao36, co36, eo36⟩ := Kd.R_slice HO_3.out
              subst eo36
              have hcz37_0 : wr.cell? ⟨gb380, 0, none⟩ = some (.slice A0_0 l0_0.length c0_0) := (blk_cell BK380.out 0).trans rfl
              have hcz37_1 : wr.cell? ⟨gb380, 1, none⟩ = some (.slice A0_1 l0_1.length c0_1) := (blk_cell BK380.out 1).trans rfl
              have hfz37_0 := blk_frozen BK380.out 0
              have hfz37_1 := blk_frozen BK380.out 1
              go_wp2
              repeat (go_quiet (fail); try go_wp2)
              go_ret
              exact ⟨by first | rfl | (simp [errW_none, errW_some] <;> rfl) | (simp [*, errW_none, errW_some] <;> rfl), by repeat (first | (with_reducible first | exact HB.out | apply below_alloc | apply pw_below_drewN | apply below_drew1 | refine below_set ?_ GE380.out) | exact HB.out)⟩
      · rw [if_neg c7] at H
        have c7b0 : (t384 == 0) = false := beq_eq_false_iff_ne.mpr c7
        have c7b1 : (t384 != 0) = true := bne_iff_ne.mpr c7
        obtain rfl := Option.some.inj H
        go_enter Tryd.func5, Tryd.ntmps5
        go_wp2_with (first | ((with_reducible refine gate_dst (N := 1) rfl ?_); (try (refine gate_guard (by rfl) ?_; dsimp only)); refine box_event ?hg (N := 1) ?hd (cs := #[.slice A0_0 l0_0.length c0_0, .slice A0_1 l0_1.length c0_1]) (t := 45) ?hr ?_; (case hd => rfl); (case hg => rfl); (case hr => first | (go_simp; done) | (go_simp; rfl)); intro gb380 hg w38 hbox hb; have n0_ := Aside0.mk (below_step (by repeat (first | (with_reducible first | exact HB.out | apply below_alloc | apply pw_below_drewN | apply below_drew1) | exact HB.out)) hb); have n1_ := Aside0.mk (hbox); have n2_ := Aside0.mk ((by rw [hg]; exact (below_size (by repeat (first | (with_reducible first | exact HB.out | apply below_alloc | apply pw_below_drewN | apply below_drew1) | exact HB.out))) : w.heap.size ≤ gb380)); have n3_ := Aside0.mk ((by rw [hg]; exact (below_size (by repeat (first | (with_reducible first | exact HB.out | apply below_alloc | apply pw_below_drewN | apply below_drew1) | exact HB.out))) : w.heap.size ≤ gb380)); clear HB; have HB := n0_; have BK380 := n1_; have GW380 := n2_; have GE380 := n3_; clear n0_ n1_ n2_ n3_; clear hb hbox hg) | (go_at_call 9; (with_reducible refine (vinculumlaw26_awake.calls k  true _ A2.out).mono ?_); rintro e w39 ⟨rfl, hb⟩; have n0_ := Aside0.mk (blk_below (g := gb380) (o := .cells #[.slice A0_0 l0_0.length c0_0, .slice A0_1 l0_1.length c0_1] 45 (0, 0)) (by (with_reducible repeat (first | refine blk_drewN ?_ _ | refine blk_drew ?_ | refine blk_alloc ?_ _)); exact BK380.out) hb); have n1_ := Aside0.mk (below_step (by repeat (first | (with_reducible first | exact HB.out | apply below_alloc | apply pw_below_drewN | apply below_drew1 | refine below_set ?_ GE380.out) | exact HB.out)) hb); clear BK380; clear HB; have BK380 := n0_; have HB := n1_; clear n0_ n1_; (try clear hb); (try clear hb2); (try clear hk); (try clear hi); have hcz40_0 : w39.cell? ⟨gb380, 0, none⟩ = some (.slice A0_0 l0_0.length c0_0) := (blk_cell BK380.out 0).trans rfl; have hcz40_1 : w39.cell? ⟨gb380, 1, none⟩ = some (.slice A0_1 l0_1.length c0_1) := (blk_cell BK380.out 1).trans rfl; have hfz40_0 := blk_frozen BK380.out 0; have hfz40_1 := blk_frozen BK380.out 1) | (go_at_call 16; (with_reducible refine (vinculumlaw26_few.calls k _ _ l0_0 _ _ l0_1 true _ ?side1 ?side2 ?side3 ?side4 A4.out).mono ?_); (case side1 => repeat (first | exact (Kd.C_below HR0_0.out HB.out) | (with_reducible refine Kd.C_alloc ?_ _) | (with_reducible refine Kd.C_drewN ?_ _) | (with_reducible refine Kd.C_drew ?_))); (case side2 => exact HC0_0.out); (case side3 => repeat (first | exact (Kd.C_below HR0_1.out HB.out) | (with_reducible refine Kd.C_alloc ?_ _) | (with_reducible refine Kd.C_drewN ?_ _) | (with_reducible refine Kd.C_drew ?_))); (case side4 => exact HC0_1.out); rintro e w41 ⟨rfl, hb⟩; have n0_ := Aside0.mk (blk_below (g := gb380) (o := .cells #[.slice A0_0 l0_0.length c0_0, .slice A0_1 l0_1.length c0_1] 45 (0, 0)) (by (with_reducible repeat (first | refine blk_drewN ?_ _ | refine blk_drew ?_ | refine blk_alloc ?_ _)); exact BK380.out) hb); have n1_ := Aside0.mk (below_step (by repeat (first | (with_reducible first | exact HB.out | apply below_alloc | apply pw_below_drewN | apply below_drew1 | refine below_set ?_ GE380.out) | exact HB.out)) hb); clear BK380; clear HB; have BK380 := n0_; have HB := n1_; clear n0_ n1_; (try clear hb); (try clear hb2); (try clear hk); (try clear hi); have hcz42_0 : w41.cell? ⟨gb380, 0, none⟩ = some (.slice A0_0 l0_0.length c0_0) := (blk_cell BK380.out 0).trans rfl; have hcz42_1 : w41.cell? ⟨gb380, 1, none⟩ = some (.slice A0_1 l0_1.length c0_1) := (blk_cell BK380.out 1).trans rfl; have hfz42_0 := blk_frozen BK380.out 0; have hfz42_1 := blk_frozen BK380.out 1) | (go_at_call 17; (with_reducible refine (atom_Classes.calls k _ _ l0_0 _ _ l0_1 t383 t384 _ ?side1 ?side2 ?side3 ?side4 A6.out).mono ?_); (case side1 => repeat (first | exact (Kd.C_below HR0_0.out HB.out) | (with_reducible refine Kd.C_alloc ?_ _) | (with_reducible refine Kd.C_drewN ?_ _) | (with_reducible refine Kd.C_drew ?_))); (case side2 => exact HC0_0.out); (case side3 => repeat (first | exact (Kd.C_below HR0_1.out HB.out) | (with_reducible refine Kd.C_alloc ?_ _) | (with_reducible refine Kd.C_drewN ?_ _) | (with_reducible refine Kd.C_drew ?_))); (case side4 => exact HC0_1.out); rintro e w43 ⟨v385, rfl, ho0, hb⟩; have n0_ := Aside0.mk (Kd.R_lower ho0 (below_size (by repeat (first | (with_reducible first | exact HB.out | apply below_alloc | apply pw_below_drewN | apply below_drew1 | refine below_set ?_ GE380.out) | exact HB.out)))); have n1_ := Aside0.mk (blk_below (g := gb380) (o := .cells #[.slice A0_0 l0_0.length c0_0, .slice A0_1 l0_1.length c0_1] 45 (0, 0)) (by (with_reducible repeat (first | refine blk_drewN ?_ _ | refine blk_drew ?_ | refine blk_alloc ?_ _)); exact BK380.out) hb); have n2_ := Aside0.mk (below_step (by repeat (first | (with_reducible first | exact HB.out | apply below_alloc | apply pw_below_drewN | apply below_drew1 | refine below_set ?_ GE380.out) | exact HB.out)) hb); clear BK380; clear HB; have HO386 := n0_; have BK380 := n1_; have HB := n2_; clear n0_ n1_ n2_; (try clear hb); (try clear hb2); (try clear hk); (try clear hi); (try clear ho0); obtain ⟨Ao44, co44, eo44⟩ := Kd.R_slice HO386.out; subst eo44))
        repeat (go_quiet (first | ((with_reducible refine gate_dst (N := 1) rfl ?_); (try (refine gate_guard (by rfl) ?_; dsimp only)); refine box_event ?hg (N := 1) ?hd (cs := #[.slice A0_0 l0_0.length c0_0, .slice A0_1 l0_1.length c0_1]) (t := 45) ?hr ?_; (case hd => rfl); (case hg => rfl); (case hr => first | (go_simp; done) | (go_simp; rfl)); intro gb380 hg w38 hbox hb; have n0_ := Aside0.mk (below_step (by repeat (first | (with_reducible first | exact HB.out | apply below_alloc | apply pw_below_drewN | apply below_drew1) | exact HB.out)) hb); have n1_ := Aside0.mk (hbox); have n2_ := Aside0.mk ((by rw [hg]; exact (below_size (by repeat (first | (with_reducible first | exact HB.out | apply below_alloc | apply pw_below_drewN | apply below_drew1) | exact HB.out))) : w.heap.size ≤ gb380)); have n3_ := Aside0.mk ((by rw [hg]; exact (below_size (by repeat (first | (with_reducible first | exact HB.out | apply below_alloc | apply pw_below_drewN | apply below_drew1) | exact HB.out))) : w.heap.size ≤ gb380)); clear HB; have HB := n0_; have BK380 := n1_; have GW380 := n2_; have GE380 := n3_; clear n0_ n1_ n2_ n3_; clear hb hbox hg) | (go_at_call 9; (with_reducible refine (vinculumlaw26_awake.calls k  true _ A2.out).mono ?_); rintro e w39 ⟨rfl, hb⟩; have n0_ := Aside0.mk (blk_below (g := gb380) (o := .cells #[.slice A0_0 l0_0.length c0_0, .slice A0_1 l0_1.length c0_1] 45 (0, 0)) (by (with_reducible repeat (first | refine blk_drewN ?_ _ | refine blk_drew ?_ | refine blk_alloc ?_ _)); exact BK380.out) hb); have n1_ := Aside0.mk (below_step (by repeat (first | (with_reducible first | exact HB.out | apply below_alloc | apply pw_below_drewN | apply below_drew1 | refine below_set ?_ GE380.out) | exact HB.out)) hb); clear BK380; clear HB; have BK380 := n0_; have HB := n1_; clear n0_ n1_; (try clear hb); (try clear hb2); (try clear hk); (try clear hi); have hcz40_0 : w39.cell? ⟨gb380, 0, none⟩ = some (.slice A0_0 l0_0.length c0_0) := (blk_cell BK380.out 0).trans rfl; have hcz40_1 : w39.cell? ⟨gb380, 1, none⟩ = some (.slice A0_1 l0_1.length c0_1) := (blk_cell BK380.out 1).trans rfl; have hfz40_0 := blk_frozen BK380.out 0; have hfz40_1 := blk_frozen BK380.out 1) | (go_at_call 16; (with_reducible refine (vinculumlaw26_few.calls k _ _ l0_0 _ _ l0_1 true _ ?side1 ?side2 ?side3 ?side4 A4.out).mono ?_); (case side1 => repeat (first | exact (Kd.C_below HR0_0.out HB.out) | (with_reducible refine Kd.C_alloc ?_ _) | (with_reducible refine Kd.C_drewN ?_ _) | (with_reducible refine Kd.C_drew ?_))); (case side2 => exact HC0_0.out); (case side3 => repeat (first | exact (Kd.C_below HR0_1.out HB.out) | (with_reducible refine Kd.C_alloc ?_ _) | (with_reducible refine Kd.C_drewN ?_ _) | (with_reducible refine Kd.C_drew ?_))); (case side4 => exact HC0_1.out); rintro e w41 ⟨rfl, hb⟩; have n0_ := Aside0.mk (blk_below (g := gb380) (o := .cells #[.slice A0_0 l0_0.length c0_0, .slice A0_1 l0_1.length c0_1] 45 (0, 0)) (by (with_reducible repeat (first | refine blk_drewN ?_ _ | refine blk_drew ?_ | refine blk_alloc ?_ _)); exact BK380.out) hb); have n1_ := Aside0.mk (below_step (by repeat (first | (with_reducible first | exact HB.out | apply below_alloc | apply pw_below_drewN | apply below_drew1 | refine below_set ?_ GE380.out) | exact HB.out)) hb); clear BK380; clear HB; have BK380 := n0_; have HB := n1_; clear n0_ n1_; (try clear hb); (try clear hb2); (try clear hk); (try clear hi); have hcz42_0 : w41.cell? ⟨gb380, 0, none⟩ = some (.slice A0_0 l0_0.length c0_0) := (blk_cell BK380.out 0).trans rfl; have hcz42_1 : w41.cell? ⟨gb380, 1, none⟩ = some (.slice A0_1 l0_1.length c0_1) := (blk_cell BK380.out 1).trans rfl; have hfz42_0 := blk_frozen BK380.out 0; have hfz42_1 := blk_frozen BK380.out 1) | (go_at_call 17; (with_reducible refine (atom_Classes.calls k _ _ l0_0 _ _ l0_1 t383 t384 _ ?side1 ?side2 ?side3 ?side4 A6.out).mono ?_); (case side1 => repeat (first | exact (Kd.C_below HR0_0.out HB.out) | (with_reducible refine Kd.C_alloc ?_ _) | (with_reducible refine Kd.C_drewN ?_ _) | (with_reducible refine Kd.C_drew ?_))); (case side2 => exact HC0_0.out); (case side3 => repeat (first | exact (Kd.C_below HR0_1.out HB.out) | (with_reducible refine Kd.C_alloc ?_ _) | (with_reducible refine Kd.C_drewN ?_ _) | (with_reducible refine Kd.C_drew ?_))); (case side4 => exact HC0_1.out); rintro e w43 ⟨v385, rfl, ho0, hb⟩; have n0_ := Aside0.mk (Kd.R_lower ho0 (below_size (by repeat (first | (with_reducible first | exact HB.out | apply below_alloc | apply pw_below_drewN | apply below_drew1 | refine below_set ?_ GE380.out) | exact HB.out)))); have n1_ := Aside0.mk (blk_below (g := gb380) (o := .cells #[.slice A0_0 l0_0.length c0_0, .slice A0_1 l0_1.length c0_1] 45 (0, 0)) (by (with_reducible repeat (first | refine blk_drewN ?_ _ | refine blk_drew ?_ | refine blk_alloc ?_ _)); exact BK380.out) hb); have n2_ := Aside0.mk (below_step (by repeat (first | (with_reducible first | exact HB.out | apply below_alloc | apply pw_below_drewN | apply below_drew1 | refine below_set ?_ GE380.out) | exact HB.out)) hb); clear BK380; clear HB; have HO386 := n0_; have BK380 := n1_; have HB := n2_; clear n0_ n1_ n2_; (try clear hb); (try clear hb2); (try clear hk); (try clear hi); (try clear ho0); obtain ⟨Ao44, co44, eo44⟩ := Kd.R_slice HO386.out; subst eo44)); try go_wp2_with (first | ((with_reducible refine gate_dst (N := 1) rfl ?_); (try (refine gate_guard (by rfl) ?_; dsimp only)); refine box_event ?hg (N := 1) ?hd (cs := #[.slice A0_0 l0_0.length c0_0, .slice A0_1 l0_1.length c0_1]) (t := 45) ?hr ?_; (case hd => rfl); (case hg => rfl); (case hr => first | (go_simp; done) | (go_simp; rfl)); intro gb380 hg w38 hbox hb; have n0_ := Aside0.mk (below_step (by repeat (first | (with_reducible first | exact HB.out | apply below_alloc | apply pw_below_drewN | apply below_drew1) | exact HB.out)) hb); have n1_ := Aside0.mk (hbox); have n2_ := Aside0.mk ((by rw [hg]; exact (below_size (by repeat (first | (with_reducible first | exact HB.out | apply below_alloc | apply pw_below_drewN | apply below_drew1) | exact HB.out))) : w.heap.size ≤ gb380)); have n3_ := Aside0.mk ((by rw [hg]; exact (below_size (by repeat (first | (with_reducible first | exact HB.out | apply below_alloc | apply pw_below_drewN | apply below_drew1) | exact HB.out))) : w.heap.size ≤ gb380)); clear HB; have HB := n0_; have BK380 := n1_; have GW380 := n2_; have GE380 := n3_; clear n0_ n1_ n2_ n3_; clear hb hbox hg) | (go_at_call 9; (with_reducible refine (vinculumlaw26_awake.calls k  true _ A2.out).mono ?_); rintro e w39 ⟨rfl, hb⟩; have n0_ := Aside0.mk (blk_below (g := gb380) (o := .cells #[.slice A0_0 l0_0.length c0_0, .slice A0_1 l0_1.length c0_1] 45 (0, 0)) (by (with_reducible repeat (first | refine blk_drewN ?_ _ | refine blk_drew ?_ | refine blk_alloc ?_ _)); exact BK380.out) hb); have n1_ := Aside0.mk (below_step (by repeat (first | (with_reducible first | exact HB.out | apply below_alloc | apply pw_below_drewN | apply below_drew1 | refine below_set ?_ GE380.out) | exact HB.out)) hb); clear BK380; clear HB; have BK380 := n0_; have HB := n1_; clear n0_ n1_; (try clear hb); (try clear hb2); (try clear hk); (try clear hi); have hcz40_0 : w39.cell? ⟨gb380, 0, none⟩ = some (.slice A0_0 l0_0.length c0_0) := (blk_cell BK380.out 0).trans rfl; have hcz40_1 : w39.cell? ⟨gb380, 1, none⟩ = some (.slice A0_1 l0_1.length c0_1) := (blk_cell BK380.out 1).trans rfl; have hfz40_0 := blk_frozen BK380.out 0; have hfz40_1 := blk_frozen BK380.out 1) | (go_at_call 16; (with_reducible refine (vinculumlaw26_few.calls k _ _ l0_0 _ _ l0_1 true _ ?side1 ?side2 ?side3 ?side4 A4.out).mono ?_); (case side1 => repeat (first | exact (Kd.C_below HR0_0.out HB.out) | (with_reducible refine Kd.C_alloc ?_ _) | (with_reducible refine Kd.C_drewN ?_ _) | (with_reducible refine Kd.C_drew ?_))); (case side2 => exact HC0_0.out); (case side3 => repeat (first | exact (Kd.C_below HR0_1.out HB.out) | (with_reducible refine Kd.C_alloc ?_ _) | (with_reducible refine Kd.C_drewN ?_ _) | (with_reducible refine Kd.C_drew ?_))); (case side4 => exact HC0_1.out); rintro e w41 ⟨rfl, hb⟩; have n0_ := Aside0.mk (blk_below (g := gb380) (o := .cells #[.slice A0_0 l0_0.length c0_0, .slice A0_1 l0_1.length c0_1] 45 (0, 0)) (by (with_reducible repeat (first | refine blk_drewN ?_ _ | refine blk_drew ?_ | refine blk_alloc ?_ _)); exact BK380.out) hb); have n1_ := Aside0.mk (below_step (by repeat (first | (with_reducible first | exact HB.out | apply below_alloc | apply pw_below_drewN | apply below_drew1 | refine below_set ?_ GE380.out) | exact HB.out)) hb); clear BK380; clear HB; have BK380 := n0_; have HB := n1_; clear n0_ n1_; (try clear hb); (try clear hb2); (try clear hk); (try clear hi); have hcz42_0 : w41.cell? ⟨gb380, 0, none⟩ = some (.slice A0_0 l0_0.length c0_0) := (blk_cell BK380.out 0).trans rfl; have hcz42_1 : w41.cell? ⟨gb380, 1, none⟩ = some (.slice A0_1 l0_1.length c0_1) := (blk_cell BK380.out 1).trans rfl; have hfz42_0 := blk_frozen BK380.out 0; have hfz42_1 := blk_frozen BK380.out 1) | (go_at_call 17; (with_reducible refine (atom_Classes.calls k _ _ l0_0 _ _ l0_1 t383 t384 _ ?side1 ?side2 ?side3 ?side4 A6.out).mono ?_); (case side1 => repeat (first | exact (Kd.C_below HR0_0.out HB.out) | (with_reducible refine Kd.C_alloc ?_ _) | (with_reducible refine Kd.C_drewN ?_ _) | (with_reducible refine Kd.C_drew ?_))); (case side2 => exact HC0_0.out); (case side3 => repeat (first | exact (Kd.C_below HR0_1.out HB.out) | (with_reducible refine Kd.C_alloc ?_ _) | (with_reducible refine Kd.C_drewN ?_ _) | (with_reducible refine Kd.C_drew ?_))); (case side4 => exact HC0_1.out); rintro e w43 ⟨v385, rfl, ho0, hb⟩; have n0_ := Aside0.mk (Kd.R_lower ho0 (below_size (by repeat (first | (with_reducible first | exact HB.out | apply below_alloc | apply pw_below_drewN | apply below_drew1 | refine below_set ?_ GE380.out) | exact HB.out)))); have n1_ := Aside0.mk (blk_below (g := gb380) (o := .cells #[.slice A0_0 l0_0.length c0_0, .slice A0_1 l0_1.length c0_1] 45 (0, 0)) (by (with_reducible repeat (first | refine blk_drewN ?_ _ | refine blk_drew ?_ | refine blk_alloc ?_ _)); exact BK380.out) hb); have n2_ := Aside0.mk (below_step (by repeat (first | (with_reducible first | exact HB.out | apply below_alloc | apply pw_below_drewN | apply below_drew1 | refine below_set ?_ GE380.out) | exact HB.out)) hb); clear BK380; clear HB; have HO386 := n0_; have BK380 := n1_; have HB := n2_; clear n0_ n1_ n2_; (try clear hb); (try clear hb2); (try clear hk); (try clear hi); (try clear ho0); obtain ⟨Ao44, co44, eo44⟩ := Kd.R_slice HO386.out; subst eo44)))
        go_ret
        exact ⟨by first | rfl | (simp [errW_none, errW_some] <;> rfl) | (simp [*, errW_none, errW_some] <;> rfl), by repeat (first | (with_reducible first | exact HB.out | apply below_alloc | apply pw_below_drewN | apply below_drew1 | refine below_set ?_ GE380.out) | exact HB.out)⟩
    · replace c5 := Bool.eq_false_iff.mpr c5
      subst c5
      have H1 : (some true) = some r := by rw [if_neg (show ¬ (false = true) by decide)] at H; exact H
      clear H
      have H := H1
      clear H1
      obtain rfl := Option.some.inj H
      go_enter Tryd.func5, Tryd.ntmps5
      go_wp2_with (first | ((with_reducible refine gate_dst (N := 1) rfl ?_); (try (refine gate_guard (by rfl) ?_; dsimp only)); refine box_event ?hg (N := 1) ?hd (cs := #[.slice A0_0 l0_0.length c0_0, .slice A0_1 l0_1.length c0_1]) (t := 45) ?hr ?_; (case hd => rfl); (case hg => rfl); (case hr => first | (go_simp; done) | (go_simp; rfl)); intro gb380 hg w45 hbox hb; have n0_ := Aside0.mk (below_step (by repeat (first | (with_reducible first | exact HB.out | apply below_alloc | apply pw_below_drewN | apply below_drew1) | exact HB.out)) hb); have n1_ := Aside0.mk (hbox); have n2_ := Aside0.mk ((by rw [hg]; exact (below_size (by repeat (first | (with_reducible first | exact HB.out | apply below_alloc | apply pw_below_drewN | apply below_drew1) | exact HB.out))) : w.heap.size ≤ gb380)); have n3_ := Aside0.mk ((by rw [hg]; exact (below_size (by repeat (first | (with_reducible first | exact HB.out | apply below_alloc | apply pw_below_drewN | apply below_drew1) | exact HB.out))) : w.heap.size ≤ gb380)); clear HB; have HB := n0_; have BK380 := n1_; have GW380 := n2_; have GE380 := n3_; clear n0_ n1_ n2_ n3_; clear hb hbox hg) | (go_at_call 9; (with_reducible refine (vinculumlaw26_awake.calls k  true _ A2.out).mono ?_); rintro e w46 ⟨rfl, hb⟩; have n0_ := Aside0.mk (blk_below (g := gb380) (o := .cells #[.slice A0_0 l0_0.length c0_0, .slice A0_1 l0_1.length c0_1] 45 (0, 0)) (by (with_reducible repeat (first | refine blk_drewN ?_ _ | refine blk_drew ?_ | refine blk_alloc ?_ _)); exact BK380.out) hb); have n1_ := Aside0.mk (below_step (by repeat (first | (with_reducible first | exact HB.out | apply below_alloc | apply pw_below_drewN | apply below_drew1 | refine below_set ?_ GE380.out) | exact HB.out)) hb); clear BK380; clear HB; have BK380 := n0_; have HB := n1_; clear n0_ n1_; (try clear hb); (try clear hb2); (try clear hk); (try clear hi); have hcz47_0 : w46.cell? ⟨gb380, 0, none⟩ = some (.slice A0_0 l0_0.length c0_0) := (blk_cell BK380.out 0).trans rfl; have hcz47_1 : w46.cell? ⟨gb380, 1, none⟩ = some (.slice A0_1 l0_1.length c0_1) := (blk_cell BK380.out 1).trans rfl; have hfz47_0 := blk_frozen BK380.out 0; have hfz47_1 := blk_frozen BK380.out 1) | (go_at_call 16; (with_reducible refine (vinculumlaw26_few.calls k _ _ l0_0 _ _ l0_1 false _ ?side1 ?side2 ?side3 ?side4 A4.out).mono ?_); (case side1 => repeat (first | exact (Kd.C_below HR0_0.out HB.out) | (with_reducible refine Kd.C_alloc ?_ _) | (with_reducible refine Kd.C_drewN ?_ _) | (with_reducible refine Kd.C_drew ?_))); (case side2 => exact HC0_0.out); (case side3 => repeat (first | exact (Kd.C_below HR0_1.out HB.out) | (with_reducible refine Kd.C_alloc ?_ _) | (with_reducible refine Kd.C_drewN ?_ _) | (with_reducible refine Kd.C_drew ?_))); (case side4 => exact HC0_1.out); rintro e w48 ⟨rfl, hb⟩; have n0_ := Aside0.mk (blk_below (g := gb380) (o := .cells #[.slice A0_0 l0_0.length c0_0, .slice A0_1 l0_1.length c0_1] 45 (0, 0)) (by (with_reducible repeat (first | refine blk_drewN ?_ _ | refine blk_drew ?_ | refine blk_alloc ?_ _)); exact BK380.out) hb); have n1_ := Aside0.mk (below_step (by repeat (first | (with_reducible first | exact HB.out | apply below_alloc | apply pw_below_drewN | apply below_drew1 | refine below_set ?_ GE380.out) | exact HB.out)) hb); clear BK380; clear HB; have BK380 := n0_; have HB := n1_; clear n0_ n1_; (try clear hb); (try clear hb2); (try clear hk); (try clear hi)))
      repeat (go_quiet (first | ((with_reducible refine gate_dst (N := 1) rfl ?_); (try (refine gate_guard (by rfl) ?_; dsimp only)); refine box_event ?hg (N := 1) ?hd (cs := #[.slice A0_0 l0_0.length c0_0, .slice A0_1 l0_1.length c0_1]) (t := 45) ?hr ?_; (case hd => rfl); (case hg => rfl); (case hr => first | (go_simp; done) | (go_simp; rfl)); intro gb380 hg w45 hbox hb; have n0_ := Aside0.mk (below_step (by repeat (first | (with_reducible first | exact HB.out | apply below_alloc | apply pw_below_drewN | apply below_drew1) | exact HB.out)) hb); have n1_ := Aside0.mk (hbox); have n2_ := Aside0.mk ((by rw [hg]; exact (below_size (by repeat (first | (with_reducible first | exact HB.out | apply below_alloc | apply pw_below_drewN | apply below_drew1) | exact HB.out))) : w.heap.size ≤ gb380)); have n3_ := Aside0.mk ((by rw [hg]; exact (below_size (by repeat (first | (with_reducible first | exact HB.out | apply below_alloc | apply pw_below_drewN | apply below_drew1) | exact HB.out))) : w.heap.size ≤ gb380)); clear HB; have HB := n0_; have BK380 := n1_; have GW380 := n2_; have GE380 := n3_; clear n0_ n1_ n2_ n3_; clear hb hbox hg) | (go_at_call 9; (with_reducible refine (vinculumlaw26_awake.calls k  true _ A2.out).mono ?_); rintro e w46 ⟨rfl, hb⟩; have n0_ := Aside0.mk (blk_below (g := gb380) (o := .cells #[.slice A0_0 l0_0.length c0_0, .slice A0_1 l0_1.length c0_1] 45 (0, 0)) (by (with_reducible repeat (first | refine blk_drewN ?_ _ | refine blk_drew ?_ | refine blk_alloc ?_ _)); exact BK380.out) hb); have n1_ := Aside0.mk (below_step (by repeat (first | (with_reducible first | exact HB.out | apply below_alloc | apply pw_below_drewN | apply below_drew1 | refine below_set ?_ GE380.out) | exact HB.out)) hb); clear BK380; clear HB; have BK380 := n0_; have HB := n1_; clear n0_ n1_; (try clear hb); (try clear hb2); (try clear hk); (try clear hi); have hcz47_0 : w46.cell? ⟨gb380, 0, none⟩ = some (.slice A0_0 l0_0.length c0_0) := (blk_cell BK380.out 0).trans rfl; have hcz47_1 : w46.cell? ⟨gb380, 1, none⟩ = some (.slice A0_1 l0_1.length c0_1) := (blk_cell BK380.out 1).trans rfl; have hfz47_0 := blk_frozen BK380.out 0; have hfz47_1 := blk_frozen BK380.out 1) | (go_at_call 16; (with_reducible refine (vinculumlaw26_few.calls k _ _ l0_0 _ _ l0_1 false _ ?side1 ?side2 ?side3 ?side4 A4.out).mono ?_); (case side1 => repeat (first | exact (Kd.C_below HR0_0.out HB.out) | (with_reducible refine Kd.C_alloc ?_ _) | (with_reducible refine Kd.C_drewN ?_ _) | (with_reducible refine Kd.C_drew ?_))); (case side2 => exact HC0_0.out); (case side3 => repeat (first | exact (Kd.C_below HR0_1.out HB.out) | (with_reducible refine Kd.C_alloc ?_ _) | (with_reducible refine Kd.C_drewN ?_ _) | (with_reducible refine Kd.C_drew ?_))); (case side4 => exact HC0_1.out); rintro e w48 ⟨rfl, hb⟩; have n0_ := Aside0.mk (blk_below (g := gb380) (o := .cells #[.slice A0_0 l0_0.length c0_0, .slice A0_1 l0_1.length c0_1] 45 (0, 0)) (by (with_reducible repeat (first | refine blk_drewN ?_ _ | refine blk_drew ?_ | refine blk_alloc ?_ _)); exact BK380.out) hb); have n1_ := Aside0.mk (below_step (by repeat (first | (with_reducible first | exact HB.out | apply below_alloc | apply pw_below_drewN | apply below_drew1 | refine below_set ?_ GE380.out) | exact HB.out)) hb); clear BK380; clear HB; have BK380 := n0_; have HB := n1_; clear n0_ n1_; (try clear hb); (try clear hb2); (try clear hk); (try clear hi))); try go_wp2_with (first | ((with_reducible refine gate_dst (N := 1) rfl ?_); (try (refine gate_guard (by rfl) ?_; dsimp only)); refine box_event ?hg (N := 1) ?hd (cs := #[.slice A0_0 l0_0.length c0_0, .slice A0_1 l0_1.length c0_1]) (t := 45) ?hr ?_; (case hd => rfl); (case hg => rfl); (case hr => first | (go_simp; done) | (go_simp; rfl)); intro gb380 hg w45 hbox hb; have n0_ := Aside0.mk (below_step (by repeat (first | (with_reducible first | exact HB.out | apply below_alloc | apply pw_below_drewN | apply below_drew1) | exact HB.out)) hb); have n1_ := Aside0.mk (hbox); have n2_ := Aside0.mk ((by rw [hg]; exact (below_size (by repeat (first | (with_reducible first | exact HB.out | apply below_alloc | apply pw_below_drewN | apply below_drew1) | exact HB.out))) : w.heap.size ≤ gb380)); have n3_ := Aside0.mk ((by rw [hg]; exact (below_size (by repeat (first | (with_reducible first | exact HB.out | apply below_alloc | apply pw_below_drewN | apply below_drew1) | exact HB.out))) : w.heap.size ≤ gb380)); clear HB; have HB := n0_; have BK380 := n1_; have GW380 := n2_; have GE380 := n3_; clear n0_ n1_ n2_ n3_; clear hb hbox hg) | (go_at_call 9; (with_reducible refine (vinculumlaw26_awake.calls k  true _ A2.out).mono ?_); rintro e w46 ⟨rfl, hb⟩; have n0_ := Aside0.mk (blk_below (g := gb380) (o := .cells #[.slice A0_0 l0_0.length c0_0, .slice A0_1 l0_1.length c0_1] 45 (0, 0)) (by (with_reducible repeat (first | refine blk_drewN ?_ _ | refine blk_drew ?_ | refine blk_alloc ?_ _)); exact BK380.out) hb); have n1_ := Aside0.mk (below_step (by repeat (first | (with_reducible first | exact HB.out | apply below_alloc | apply pw_below_drewN | apply below_drew1 | refine below_set ?_ GE380.out) | exact HB.out)) hb); clear BK380; clear HB; have BK380 := n0_; have HB := n1_; clear n0_ n1_; (try clear hb); (try clear hb2); (try clear hk); (try clear hi); have hcz47_0 : w46.cell? ⟨gb380, 0, none⟩ = some (.slice A0_0 l0_0.length c0_0) := (blk_cell BK380.out 0).trans rfl; have hcz47_1 : w46.cell? ⟨gb380, 1, none⟩ = some (.slice A0_1 l0_1.length c0_1) := (blk_cell BK380.out 1).trans rfl; have hfz47_0 := blk_frozen BK380.out 0; have hfz47_1 := blk_frozen BK380.out 1) | (go_at_call 16; (with_reducible refine (vinculumlaw26_few.calls k _ _ l0_0 _ _ l0_1 false _ ?side1 ?side2 ?side3 ?side4 A4.out).mono ?_); (case side1 => repeat (first | exact (Kd.C_below HR0_0.out HB.out) | (with_reducible refine Kd.C_alloc ?_ _) | (with_reducible refine Kd.C_drewN ?_ _) | (with_reducible refine Kd.C_drew ?_))); (case side2 => exact HC0_0.out); (case side3 => repeat (first | exact (Kd.C_below HR0_1.out HB.out) | (with_reducible refine Kd.C_alloc ?_ _) | (with_reducible refine Kd.C_drewN ?_ _) | (with_reducible refine Kd.C_drew ?_))); (case side4 => exact HC0_1.out); rintro e w48 ⟨rfl, hb⟩; have n0_ := Aside0.mk (blk_below (g := gb380) (o := .cells #[.slice A0_0 l0_0.length c0_0, .slice A0_1 l0_1.length c0_1] 45 (0, 0)) (by (with_reducible repeat (first | refine blk_drewN ?_ _ | refine blk_drew ?_ | refine blk_alloc ?_ _)); exact BK380.out) hb); have n1_ := Aside0.mk (below_step (by repeat (first | (with_reducible first | exact HB.out | apply below_alloc | apply pw_below_drewN | apply below_drew1 | refine below_set ?_ GE380.out) | exact HB.out)) hb); clear BK380; clear HB; have BK380 := n0_; have HB := n1_; clear n0_ n1_; (try clear hb); (try clear hb2); (try clear hk); (try clear hi))))
      go_ret
      exact ⟨by first | rfl | (simp [errW_none, errW_some] <;> rfl) | (simp [*, errW_none, errW_some] <;> rfl), by repeat (first | (with_reducible first | exact HB.out | apply below_alloc | apply pw_below_drewN | apply below_drew1 | refine below_set ?_ GE380.out) | exact HB.out)⟩
  · replace c3 := Bool.eq_false_iff.mpr c3
    subst c3
    have H1 : (some false) = some r := by rw [if_neg (show ¬ (false = true) by decide)] at H; exact H
    clear H
    have H := H1
    clear H1
    obtain rfl := Option.some.inj H
    go_enter Tryd.func5, Tryd.ntmps5
    go_wp2_with (first | ((with_reducible refine gate_dst (N := 1) rfl ?_); (try (refine gate_guard (by rfl) ?_; dsimp only)); refine box_event ?hg (N := 1) ?hd (cs := #[.slice A0_0 l0_0.length c0_0, .slice A0_1 l0_1.length c0_1]) (t := 45) ?hr ?_; (case hd => rfl); (case hg => rfl); (case hr => first | (go_simp; done) | (go_simp; rfl)); intro gb380 hg w49 hbox hb; have n0_ := Aside0.mk (below_step (by repeat (first | (with_reducible first | exact HB.out | apply below_alloc | apply pw_below_drewN | apply below_drew1) | exact HB.out)) hb); have n1_ := Aside0.mk (hbox); have n2_ := Aside0.mk ((by rw [hg]; exact (below_size (by repeat (first | (with_reducible first | exact HB.out | apply below_alloc | apply pw_below_drewN | apply below_drew1) | exact HB.out))) : w.heap.size ≤ gb380)); have n3_ := Aside0.mk ((by rw [hg]; exact (below_size (by repeat (first | (with_reducible first | exact HB.out | apply below_alloc | apply pw_below_drewN | apply below_drew1) | exact HB.out))) : w.heap.size ≤ gb380)); clear HB; have HB := n0_; have BK380 := n1_; have GW380 := n2_; have GE380 := n3_; clear n0_ n1_ n2_ n3_; clear hb hbox hg) | (go_at_call 9; (with_reducible refine (vinculumlaw26_awake.calls k  false _ A2.out).mono ?_); rintro e w50 ⟨rfl, hb⟩; have n0_ := Aside0.mk (blk_below (g := gb380) (o := .cells #[.slice A0_0 l0_0.length c0_0, .slice A0_1 l0_1.length c0_1] 45 (0, 0)) (by (with_reducible repeat (first | refine blk_drewN ?_ _ | refine blk_drew ?_ | refine blk_alloc ?_ _)); exact BK380.out) hb); have n1_ := Aside0.mk (below_step (by repeat (first | (with_reducible first | exact HB.out | apply below_alloc | apply pw_below_drewN | apply below_drew1 | refine below_set ?_ GE380.out) | exact HB.out)) hb); clear BK380; clear HB; have BK380 := n0_; have HB := n1_; clear n0_ n1_; (try clear hb); (try clear hb2); (try clear hk); (try clear hi)))
    repeat (go_quiet (first | ((with_reducible refine gate_dst (N := 1) rfl ?_); (try (refine gate_guard (by rfl) ?_; dsimp only)); refine box_event ?hg (N := 1) ?hd (cs := #[.slice A0_0 l0_0.length c0_0, .slice A0_1 l0_1.length c0_1]) (t := 45) ?hr ?_; (case hd => rfl); (case hg => rfl); (case hr => first | (go_simp; done) | (go_simp; rfl)); intro gb380 hg w49 hbox hb; have n0_ := Aside0.mk (below_step (by repeat (first | (with_reducible first | exact HB.out | apply below_alloc | apply pw_below_drewN | apply below_drew1) | exact HB.out)) hb); have n1_ := Aside0.mk (hbox); have n2_ := Aside0.mk ((by rw [hg]; exact (below_size (by repeat (first | (with_reducible first | exact HB.out | apply below_alloc | apply pw_below_drewN | apply below_drew1) | exact HB.out))) : w.heap.size ≤ gb380)); have n3_ := Aside0.mk ((by rw [hg]; exact (below_size (by repeat (first | (with_reducible first | exact HB.out | apply below_alloc | apply pw_below_drewN | apply below_drew1) | exact HB.out))) : w.heap.size ≤ gb380)); clear HB; have HB := n0_; have BK380 := n1_; have GW380 := n2_; have GE380 := n3_; clear n0_ n1_ n2_ n3_; clear hb hbox hg) | (go_at_call 9; (with_reducible refine (vinculumlaw26_awake.calls k  false _ A2.out).mono ?_); rintro e w50 ⟨rfl, hb⟩; have n0_ := Aside0.mk (blk_below (g := gb380) (o := .cells #[.slice A0_0 l0_0.length c0_0, .slice A0_1 l0_1.length c0_1] 45 (0, 0)) (by (with_reducible repeat (first | refine blk_drewN ?_ _ | refine blk_drew ?_ | refine blk_alloc ?_ _)); exact BK380.out) hb); have n1_ := Aside0.mk (below_step (by repeat (first | (with_reducible first | exact HB.out | apply below_alloc | apply pw_below_drewN | apply below_drew1 | refine below_set ?_ GE380.out) | exact HB.out)) hb); clear BK380; clear HB; have BK380 := n0_; have HB := n1_; clear n0_ n1_; (try clear hb); (try clear hb2); (try clear hk); (try clear hi))); try go_wp2_with (first | ((with_reducible refine gate_dst (N := 1) rfl ?_); (try (refine gate_guard (by rfl) ?_; dsimp only)); refine box_event ?hg (N := 1) ?hd (cs := #[.slice A0_0 l0_0.length c0_0, .slice A0_1 l0_1.length c0_1]) (t := 45) ?hr ?_; (case hd => rfl); (case hg => rfl); (case hr => first | (go_simp; done) | (go_simp; rfl)); intro gb380 hg w49 hbox hb; have n0_ := Aside0.mk (below_step (by repeat (first | (with_reducible first | exact HB.out | apply below_alloc | apply pw_below_drewN | apply below_drew1) | exact HB.out)) hb); have n1_ := Aside0.mk (hbox); have n2_ := Aside0.mk ((by rw [hg]; exact (below_size (by repeat (first | (with_reducible first | exact HB.out | apply below_alloc | apply pw_below_drewN | apply below_drew1) | exact HB.out))) : w.heap.size ≤ gb380)); have n3_ := Aside0.mk ((by rw [hg]; exact (below_size (by repeat (first | (with_reducible first | exact HB.out | apply below_alloc | apply pw_below_drewN | apply below_drew1) | exact HB.out))) : w.heap.size ≤ gb380)); clear HB; have HB := n0_; have BK380 := n1_; have GW380 := n2_; have GE380 := n3_; clear n0_ n1_ n2_ n3_; clear hb hbox hg) | (go_at_call 9; (with_reducible refine (vinculumlaw26_awake.calls k  false _ A2.out).mono ?_); rintro e w50 ⟨rfl, hb⟩; have n0_ := Aside0.mk (blk_below (g := gb380) (o := .cells #[.slice A0_0 l0_0.length c0_0, .slice A0_1 l0_1.length c0_1] 45 (0, 0)) (by (with_reducible repeat (first | refine blk_drewN ?_ _ | refine blk_drew ?_ | refine blk_alloc ?_ _)); exact BK380.out) hb); have n1_ := Aside0.mk (below_step (by repeat (first | (with_reducible first | exact HB.out | apply below_alloc | apply pw_below_drewN | apply below_drew1 | refine below_set ?_ GE380.out) | exact HB.out)) hb); clear BK380; clear HB; have BK380 := n0_; have HB := n1_; clear n0_ n1_; (try clear hb); (try clear hb2); (try clear hk); (try clear hi))))
    go_ret
    exact ⟨by first | rfl | (simp [errW_none, errW_some] <;> rfl) | (simp [*, errW_none, errW_some] <;> rfl), by repeat (first | (with_reducible first | exact HB.out | apply below_alloc | apply pw_below_drewN | apply below_drew1 | refine below_set ?_ GE380.out) | exact HB.out)⟩
end Go.Proofs.YthdppkmmfjaiaaaDoor.G
namespace Go.Proofs.YthdppkmmfjaiaaaDoor.G.Pure
open Go.Proofs.YthdppkmmfjaiaaaDoorW.PrintWords Go.RowKit
set_option linter.unusedVariables false
set_option linter.unusedSimpArgs false
theorem bin_l (d : List S59) (items : List S25) (cs : List Int) (he : cs.length = items.length) (hl : cs.length ≤ 1000) (g : Good cs) (hr : ∀ x ∈ cs, 0 ≤ x ∧ x ≤ 7) (hz : ∀ h : 0 < cs.length, cs[cs.length - 1] ≠ 2) : ∀ (m i : Nat), cs.length - i = m → Ev (fun k => vinculumlaw26_AtomBinary.l0 k cs i d items) true := by
  intro m
  induction m with
  | zero =>
    intro i hi
    refine Ev.step (fun k => by rw [vinculumlaw26_AtomBinary.l0]) ?_
    refine ev_if (fun h => by omega) fun _ => ev_now ?_
    rw [he]; simp
  | succ m ih =>
    intro i hi
    have nxt : Ev (fun k => vinculumlaw26_AtomBinary.l0 k cs ((i : Int) + 1) d items) true := by
      have := ih (i + 1) (by omega)
      exact_mod_cast this
    refine Ev.step (fun k => by rw [vinculumlaw26_AtomBinary.l0]) ?_
    rw [wr (n := (i : Int) + 1) (by omega), wr (n := (cs.length : Int) - 1) (by omega)]
    refine ev_if (fun _ => ?_) fun h => by omega
    refine ev_if (fun _ => ?_) fun h => by omega
    rw [rdI_at cs i (by omega)]
    refine ev_if (fun h2 => ?_) fun _ => nxt
    refine ev_if (fun h0 => ?_) fun h0 => ?_
    · obtain rfl : i = 0 := by omega
      exact absurd h2 (g.first (by omega))
    · have hne : i ≠ cs.length - 1 := fun e => by
        have := hz (by omega)
        simp only [← e] at this
        exact this h2
      rw [beq_eq_false_iff_ne.2 (show (i : Int) ≠ (cs.length : Int) - 1 by omega)]
      obtain ⟨j, rfl⟩ : ∃ j, i = j + 1 := ⟨i - 1, by omega⟩
      have hb := g.before j (by omega) h2
      have hc := g.behind (j + 1) (by omega) h2
      have r1 := hr _ (List.getElem_mem (show j < cs.length by omega))
      have r2 := hr _ (List.getElem_mem (show j + 1 + 1 < cs.length by omega))
      refine Ev.step (fun k => by rw [vinculumlaw26_AtomBinary.j1]) ?_
      rw [wr (n := ((j + 1 : Nat) : Int) + 1) (by omega), wr (n := ((j + 1 : Nat) : Int) - 1) (by omega), show ((j + 1 : Nat) : Int) - 1 = (j : Int) by omega, show ((j + 1 : Nat) : Int) + 1 = ((j + 1 + 1 : Nat) : Int) by omega]
      refine ev_if (fun h => by cases h) fun _ => ?_
      refine ev_if (fun _ => ?_) fun h => by omega
      refine ev_if (fun _ => ?_) fun h => by omega
      refine ev_if (fun _ => ?_) fun h => by omega
      refine ev_if (fun _ => ?_) fun h => by omega
      rw [← rdI_at cs j (by omega)] at hb
      rw [← rdI_at cs (j + 1 + 1) (by omega)] at hc
      replace r1 : 0 ≤ rd cs j ∧ rd cs j ≤ 7 := by rw [rdI_at cs j (by omega)]; exact r1
      replace r2 : 0 ≤ rd cs ((j + 1 + 1 : Nat) : Int) ∧ rd cs ((j + 1 + 1 : Nat) : Int) ≤ 7 := by rw [rdI_at cs (j + 1 + 1) (by omega)]; exact r2
      generalize rd cs j = b at hb r1 ⊢
      generalize rd cs ((j + 1 + 1 : Nat) : Int) = c at hc r2 ⊢
      unfold opB at hb
      unfold clB at hc
      simp only [Bool.or_eq_false_iff, beq_eq_false_iff_ne] at hb hc
      have j2 : Ev (fun k => vinculumlaw26_AtomBinary.j2 k cs ((j + 1 : Nat) : Int) c false d items) true := by
        refine Ev.step (fun k => by rw [vinculumlaw26_AtomBinary.j2]) ?_
        rw [wr (n := ((j + 1 : Nat) : Int) + 1) (by omega)]
        refine ev_if (fun h => by cases h) fun _ => ?_
        refine ev_if (fun _ => nxt) fun c0 => ?_
        refine ev_if (fun _ => nxt) fun c1 => ?_
        refine ev_if (fun _ => nxt) fun c4 => ?_
        refine ev_if (fun _ => nxt) fun c7 => ?_
        exfalso
        obtain ⟨n2, ⟨n3, n5⟩, n6⟩ := hc
        omega
      refine ev_if (fun _ => j2) fun b0 => ?_
      refine ev_if (fun _ => j2) fun b5 => ?_
      obtain ⟨⟨⟨⟨n2, n1⟩, n3⟩, n4⟩, n6⟩ := hb
      obtain rfl : b = 7 := by omega
      exact j2
theorem AtomBinary (x : List S59 × List S25) (o : OkL OkEntry x.1 ∧ OkL OkNode x.2) : ∃ k, vinculumlaw26_AtomBinary.f k x.1 x.2 = some true := by
  apply Ev.rounds
  unfold vinculumlaw26_AtomBinary.f
  refine guard26 (α := Unit) x.1 x.2 o.2 fun hd hc => ?_
  have hi := len_cnt x.2
  refine ev_bind (pClasses_ev x.1 x.2 (by omega) o.2 (by omega)) ?_
  refine ev_if (fun h0 => ?_) fun h0 => ev_now (by rw [clsB_bad h0]; rfl)
  obtain ⟨hv, hb, e⟩ := clsB_ok h0
  have el := clsB_len x.1 x.2 h0
  have el2 : (clsR (x.2.map (classV x.1))).length = x.2.length := by rw [clsR_len, List.length_map]
  rw [e]
  have := bin_l x.1 x.2 (clsR (x.2.map (classV x.1))) el2 (by omega) (good_cls _) (clsB_range (by omega) hv) (fun h => fin_last _ h) _ 0 rfl
  exact_mod_cast this
end Go.Proofs.YthdppkmmfjaiaaaDoor.G.Pure
namespace Go.Proofs.YthdppkmmfjaiaaaDoor.atomBinary
open Go.ChangeShapes Go.WideShapes Go.ChangeAt Go.RowKit G
set_option linter.unusedVariables false
theorem own : ownKnob Tryd.prog.godebug = none := by kernel_rfl
theorem laidOut : laidOutB Tryd.prog = true := by kernel_rfl
set_option maxRecDepth 100000 in
theorem lifted (os : Os) (started : os.Started) (H : Type) (enc : TypeId × Value → H) :
    ReturnsInHanded {} Tryd.checked os 5 .any (fun w args => (Rows.atomBinarySpec.pre enc Tryd.prog Tryd.f5 Rows.atomBinaryRow.domain false w args ∧ laidMetH Tryd.prog Rows.atomBinaryRow.laid w) ∧ sizedMet enc Tryd.prog Tryd.f5 (OpenSpec.ofChange Rows.atomBinarySpec) false w args)
      (Rows.atomBinarySpec.post enc Tryd.prog Tryd.f5 false true false false) := by
  refine returnsInHanded_of_change_and (C := Tryd.checked) (X := fun w _ => laidMetH Tryd.prog Rows.atomBinaryRow.laid w) (fun _ _ _ hh h => h.of_heap hh) own started (by kernel_rfl) Tryd.func5
    (ChangeSpec.witness_shaped (enc := enc) (C := Tryd.checked) (os := os) (X := fun w _ => laidMetH Tryd.prog Rows.atomBinaryRow.laid w) false (World.laidAll Tryd.prog os Rows.atomBinaryRow.laid) #[.agg #[.slice none 0 0, .slice none 0 0]] 8 (World.laidAll_os _ _ _)
      (World.shaped_of_ZipB (by kernel_rfl) (by kernel_rfl)) (by kernel_rfl) (by kernel_rfl) (by kernel_rfl)
      (by rw [MakeChecks.laidMetH_plain _ _ _ (by kernel_rfl)]; exact laidMet_laidAll _ (by kernel_rfl) (by kernel_rfl))) ?_
  intro W base args ds gs before hval0 hW hc _ hL _
  have hval : ∀ (j : Nat) t v, Tryd.f5.params[j]? = some t → args[j]? = some v → Value.okWide Tryd.prog W .any base t v := hval0
  have hW' := hW
  obtain ⟨p, q, hA0, hV, rfl, _, _⟩ := hW
  have hA : DataW.TrodAll enc Tryd.prog W 0 (fun _ => true) true Tryd.f5.params.toList args.toList ds p := hA0
  rw [Tryd.params5] at hA hval
  obtain ⟨v0, vs0, d0, ds0, p0, q0, hargs, rfl, rfl, h0, r0⟩ := trodAll_cons hA
  obtain ⟨rfl, rfl, rfl⟩ := trodAll_nil r0
  obtain rfl : args = #[v0] := by cases args; simp_all
  obtain ⟨rfl, rfl⟩ := trodVars_none hV
  have k0 := h0
  have lt0 : ∀ x ∈ p0, x.block < W.heap.size := by obtain ⟨m, hm⟩ := k0; exact DataW.trod_lt m _ _ _ hm
  obtain ⟨x0, A0_0, c0_0, A0_1, c0_1, rfl, le0_0, C0_0, le0_1, C0_1, o0⟩ := line_arg (hval 0 45 v0 rfl rfl) h0
  clear hA0 hval0
  obtain ⟨k, hk⟩ := G.Pure.AtomBinary x0 o0
  refine (vinculumlaw26_AtomBinary.calls k A0_0 c0_0 x0.1 A0_1 c0_1 x0.2 true W C0_0 le0_0 C0_1 le0_1 hk).mono fun e W' ⟨he, bel⟩ => ?_
  subst he
  exact ⟨_, rfl, _, _, _, [], _, [], hW', trodAll_mk1 (shut_bool Tryd.underlying4 _), (trodAll_cons_mk (Below.trod laidOut (by kernel_rfl) (of_decide_eq_true (by kernel_rfl)) k0 bel lt0) trodAll_mk0), rfl, bel.frame _, fun h => by cases h⟩
theorem holds : Rows.AtomBinarySaid :=
  OpenClaim.holds_of_wide 5 Tryd.f5 rfl rfl rfl rfl rfl rfl rfl ⟨rfl, rfl, rfl, rfl, rfl⟩ rfl rfl rfl rfl rfl (by kernel_rfl) Tryd.func5 (by kernel_rfl)
    (of_decide_eq_true (by kernel_rfl)) (by unfold Func.isWrapper; first | (rw [if_pos (by decide +kernel)]; kernel_rfl) | (rw [if_neg (by decide +kernel)]; exact ⟨rfl, rfl⟩))
    (fun os started H enc _ => lifted os started H enc)
theorem card : Rows.AtomBinaryCardSaid :=
  Claim7.holds_tied_plain_at .later [] [.data, .pinned] true (true, "67734db34f1bce92d6d831cc5660dc68cd0a9c31abe382fca0bd44b935d5faa7") false holds (fun _ h => by cases h) (by kernel_rfl) (fun _ h => by cases h) atomBinary_row_tie rfl ⟨rfl, rfl⟩ (by kernel_rfl) rfl
    (fun f fn hf hfn => by
      obtain rfl : f = 5 := Option.some.inj ((show Tryd.prog.funcNamed "vinculum/vinculumlaw26.AtomBinary" = some 5 by kernel_rfl).symm.trans hf) |>.symm
      obtain rfl : fn = Tryd.f5 := (Option.some.inj (Tryd.func5.symm.trans hfn)).symm
      exact ⟨by kernel_rfl, fun j t ht => by
        rw [Tryd.params5] at ht
        have hm : t ∈ [45] := by simpa using Array.mem_of_getElem? ht
        have hall : ([45].all fun u => !Tryd.prog.wantsStandIn u) = true := by kernel_rfl
        exact (show Tryd.prog.wantsStandIn t = false by simpa using List.all_eq_true.1 hall t hm)⟩)
    (by kernel_rfl)
end Go.Proofs.YthdppkmmfjaiaaaDoor.atomBinary
namespace Go.Proofs.YthdppkmmfjaiaaaDoor
theorem atomBinary_card : Rows.AtomBinaryCardSaid := atomBinary.card
#print axioms atomBinary_card
end Go.Proofs.YthdppkmmfjaiaaaDoor
