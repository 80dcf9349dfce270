-- Written by pack2.py, a program of this session: this session's texts and those that the kit's printer wrote for this claim, pruned to what the claims use.
import Derived.Test.YtagkhoeidjlahaaDoorCBp2
import Derived.Test.YtagkhoeidjlahaaDoorCBp14
import Derived.Test.YtagkhoeidjlahaaDoorCBp13
import Derived.Test.YtagkhoeidjlahaaDoorCBp10
import Derived.Test.YtagkhoeidjlahaaDoorRows
import Derived.Test.YtagkhoeidjlahaaDoorTie
import Derived.Test.YtagkhoeidjlahaaDoorCards
import Derived.WalkKit
import Derived.ProofKit
import Derived.OpenShut
import Derived.ShutString
import Derived.ChangeOld
import Derived.Below
import Derived.SizedLaws
import Derived.LaidMore
import Derived.Lay
import Derived.SevenTiedAt
import Derived.Stop.Joined
namespace Go.Proofs.YtagkhoeidjlahaaDoor.G
open Go.RowKit Go.Proofs.YtagkhoeidjlahaaDoorW.PrintWords Go.Proofs.YtagkhoeidjlahaaDoorW.PrintLast Go.Proofs.YtagkhoeidjlahaaDoorW.PrintMore
attribute [local go_sem] max2_int min2_int max_two min_two max_three min_three max_four min_four
set_option linter.unusedVariables false
set_option linter.unusedSimpArgs false
mutual
def vinculumlaw43_BreakpointClasses.j0 : Nat → List (S68) → List (S36) → Bool → Option (Bool)
  | 0, _, _, _ => none
  | k + 1, x0, x1, x23 => if x23 = true then (some true) else ((breakpoint_Places.f k x0 x1).bind fun bt343 => (if bt343.2 = 0 then ((vinculumref26_Classes.f k x0 x1).bind fun bt347 => (if (bt343.1.length : Int) = 0 then (vinculumlaw43_BreakpointClasses.j1 k x1 bt343.1 bt347.1 true) else (if 0 < (bt343.1.length : Int) then (if (rd bt343.1 0) = 0 then (vinculumlaw43_BreakpointClasses.j1 k x1 bt343.1 bt347.1 ((bt347.1.length : Int) != (x1.length : Int))) else (vinculumlaw43_BreakpointClasses.j1 k x1 bt343.1 bt347.1 true)) else (none)))) else (some ((bt343.1.length : Int) == 0))))
def vinculumlaw43_BreakpointClasses.j1 : Nat → List (S36) → List Int → List Int → Bool → Option (Bool)
  | 0, _, _, _, _ => none
  | k + 1, x1, x5, x7, x56 => if x56 = true then (some false) else (vinculumlaw43_BreakpointClasses.l0 k x1 x5 x7 1 1)
def vinculumlaw43_BreakpointClasses.l0 : Nat → List (S36) → List Int → List Int → Int → Int → Option (Bool)
  | 0, _, _, _, _, _ => none
  | k + 1, x1, x5, x7, x9, x10 => if x10 < (x1.length : Int) then (if x9 < (x5.length : Int) then (if 0 ≤ x9 then (vinculumlaw43_BreakpointClasses.j3 k x1 x5 x7 x9 x10 ((rd x5 x9) == x10)) else (none)) else (vinculumlaw43_BreakpointClasses.j3 k x1 x5 x7 x9 x10 false)) else (some (x9 == (x5.length : Int)))
def vinculumlaw43_BreakpointClasses.j3 : Nat → List (S36) → List Int → List Int → Int → Int → Bool → Option (Bool)
  | 0, _, _, _, _, _, _ => none
  | k + 1, x1, x5, x7, x9, x10, x11 => if x11 = true then (if 0 ≤ x10 then (if x10 < (x7.length : Int) then (if (rd x7 x10) = 2 then (if (x11 != true) = true then (some false) else (vinculumlaw43_BreakpointClasses.l0 k x1 x5 x7 (wrap64 (x9 + 1)) (wrap64 (x10 + 1)))) else (if (rd x7 x10) = 3 then (if 0 ≤ (wrap64 (x10 - 1)) then (if (wrap64 (x10 - 1)) < (x7.length : Int) then (if (x11 != ((rd x7 (wrap64 (x10 - 1))) != 3)) = true then (some false) else (vinculumlaw43_BreakpointClasses.l0 k x1 x5 x7 (wrap64 (x9 + 1)) (wrap64 (x10 + 1)))) else (none)) else (none)) else (if (x11 != false) = true then (some false) else (vinculumlaw43_BreakpointClasses.l0 k x1 x5 x7 (wrap64 (x9 + 1)) (wrap64 (x10 + 1)))))) else (none)) else (none)) else (if 0 ≤ x10 then (if x10 < (x7.length : Int) then (if (rd x7 x10) = 2 then (if (x11 != true) = true then (some false) else (vinculumlaw43_BreakpointClasses.l0 k x1 x5 x7 x9 (wrap64 (x10 + 1)))) else (if (rd x7 x10) = 3 then (if 0 ≤ (wrap64 (x10 - 1)) then (if (wrap64 (x10 - 1)) < (x7.length : Int) then (if (x11 != ((rd x7 (wrap64 (x10 - 1))) != 3)) = true then (some false) else (vinculumlaw43_BreakpointClasses.l0 k x1 x5 x7 x9 (wrap64 (x10 + 1)))) else (none)) else (none)) else (if (x11 != false) = true then (some false) else (vinculumlaw43_BreakpointClasses.l0 k x1 x5 x7 x9 (wrap64 (x10 + 1)))))) else (none)) else (none))
end
def vinculumlaw43_BreakpointClasses.f (k : Nat) (l0 : List (S68)) (l1 : List (S36)) : Option (Bool) := (vinculumlaw43_awake.f k).bind fun t341 => (if t341 = true then (if (l0.length : Int) > 300 then (vinculumlaw43_BreakpointClasses.j0 k l0 l1 true) else ((vinculumref26_Few.f k l1 300).bind fun t342 => (vinculumlaw43_BreakpointClasses.j0 k l0 l1 (!t342)))) else (some false))
set_option maxHeartbeats 8000000 in
set_option maxRecDepth 100000 in
theorem vinculumlaw43_BreakpointClasses.calls (k : Nat) (A0 : Option Addr) (c0 : Nat) (l0 : List (S68)) (A1 : Option Addr) (c1 : Nat) (l1 : List (S36)) (r : Bool) (w : World) (hr0 : Kd.C k68 w A0 l0.length l0) (hc0 : l0.length ≤ c0) (hr1 : Kd.C k36 w A1 l1.length l1) (hc1 : l1.length ≤ c1) (h : vinculumlaw43_BreakpointClasses.f k l0 l1 = some r) :
    Calls Tryd.prog 4 #[.slice A0 l0.length c0, .slice A1 l1.length c1] w fun e w' => e = .returned (.bool r) ∧ Below w.heap.size w w' := by
  have HR0 := Aside0.mk hr0
  have HC0 := Aside0.mk hc0
  clear hr0 hc0
  have HR1 := Aside0.mk hr1
  have HC1 := Aside0.mk hc1
  clear hr1 hc1
  have HB := Aside0.mk (Below.refl w.heap.size w)
  have H : ((vinculumlaw43_awake.f k).bind fun t341 => (if t341 = true then (if (l0.length : Int) > 300 then (vinculumlaw43_BreakpointClasses.j0 k l0 l1 true) else ((vinculumref26_Few.f k l1 300).bind fun t342 => (vinculumlaw43_BreakpointClasses.j0 k l0 l1 (!t342)))) else (some false))) = some r := h
  clear h
  replace H := Option.bind_eq_some_iff.mp H
  obtain ⟨t341, A30, H⟩ := H
  replace H : (if t341 = true then (if (l0.length : Int) > 300 then (vinculumlaw43_BreakpointClasses.j0 k l0 l1 true) else ((vinculumref26_Few.f k l1 300).bind fun t342 => (vinculumlaw43_BreakpointClasses.j0 k l0 l1 (!t342)))) else (some false)) = some r := H
  have A3 := Aside0.mk A30
  clear A30
  by_cases c4 : t341 = true
  · subst c4
    have H1 : (if (l0.length : Int) > 300 then (vinculumlaw43_BreakpointClasses.j0 k l0 l1 true) else ((vinculumref26_Few.f k l1 300).bind fun t342 => (vinculumlaw43_BreakpointClasses.j0 k l0 l1 (!t342)))) = some r := by rw [if_pos rfl] at H; exact H
    clear H
    have H := H1
    clear H1
    have HC5 := Aside0.mk H
    clear H
    go_enter Tryd.func4, Tryd.ntmps4
    go_upto_region 3 with (first | (go_at_call 17; (with_reducible refine (vinculumlaw43_awake.calls k  true _ A3.out).mono ?_); rintro e w6 ⟨rfl, hb⟩; have n0_ := Aside0.mk (below_step (by repeat (first | (with_reducible first | exact HB.out | apply below_alloc | apply pw_below_drewN | apply below_drew1) | exact HB.out)) hb); clear HB; have HB := n0_; clear n0_; (try clear hb); (try clear hb2); (try clear hk); (try clear hi)))
    repeat (go_quiet (first | (go_at_call 17; (with_reducible refine (vinculumlaw43_awake.calls k  true _ A3.out).mono ?_); rintro e w6 ⟨rfl, hb⟩; have n0_ := Aside0.mk (below_step (by repeat (first | (with_reducible first | exact HB.out | apply below_alloc | apply pw_below_drewN | apply below_drew1) | exact HB.out)) hb); clear HB; have HB := n0_; clear n0_; (try clear hb); (try clear hb2); (try clear hk); (try clear hi))); go_upto_region 3 with (first | (go_at_call 17; (with_reducible refine (vinculumlaw43_awake.calls k  true _ A3.out).mono ?_); rintro e w6 ⟨rfl, hb⟩; have n0_ := Aside0.mk (below_step (by repeat (first | (with_reducible first | exact HB.out | apply below_alloc | apply pw_below_drewN | apply below_drew1) | exact HB.out)) hb); clear HB; have HB := n0_; clear n0_; (try clear hb); (try clear hb2); (try clear hk); (try clear hi))))
    (try simp only [Act.put, List.setIfInBounds_toArray, List.set_cons_zero, List.set_cons_succ])
    go_cut [23] (fun v23 wc => ∃ (kq : Nat) (x23_4 : Bool), v23 = .bool x23_4 ∧ Aside0 (vinculumlaw43_BreakpointClasses.j0 kq l0 l1 x23_4 = some r) ∧ Aside0 (kq ≤ k) ∧ Aside0 (Below w.heap.size w wc))
    case first =>
      have H := HC5.out
      clear HC5
      by_cases c7 : (l0.length : Int) > 300
      · rw [if_pos c7] at H
        have c7b0 : decide (300 < (l0.length : Int)) = true := decide_eq_true c7
        have c7b1 : decide (300 < l0.length) = true := decide_eq_true (by omega)
        clear c7
        (first | rw [c7b0] | (simp only [i64_w, i32_w]; rw [c7b0]) | skip)
        have H' := Aside0.mk H
        clear H
        go_wp2
        repeat (go_quiet (fail); try go_wp2)
        go_meet
        case rel => exact ⟨_, (true), (by first | rfl | (simp; done) | (simp [*]; done)), H', ⟨by first | omega | exact Nat.le_refl _⟩, ⟨by repeat (first | (with_reducible first | exact HB.out | apply below_alloc | apply pw_below_drewN | apply below_drew1) | exact HB.out)⟩⟩
      · rw [if_neg c7] at H
        have c7b0 : decide (300 < (l0.length : Int)) = false := decide_eq_false c7
        have c7b1 : decide (300 < l0.length) = false := decide_eq_false (by omega)
        clear c7
        (first | rw [c7b0] | (simp only [i64_w, i32_w]; rw [c7b0]) | skip)
        replace H := Option.bind_eq_some_iff.mp H
        obtain ⟨t342, A80, H⟩ := H
        replace H : (vinculumlaw43_BreakpointClasses.j0 k l0 l1 (!t342)) = some r := H
        have A8 := Aside0.mk A80
        clear A80
        have H' := Aside0.mk H
        clear H
        go_wp2_with (first | (go_at_call 18; (with_reducible refine (vinculumref26_Few.calls k _ _ l1 300 t342 _ ?side1 ?side2 A8.out).mono ?_); (case side1 => repeat (first | exact (Kd.C_below HR1.out HB.out) | (with_reducible refine Kd.C_alloc ?_ _) | (with_reducible refine Kd.C_drewN ?_ _) | (with_reducible refine Kd.C_drew ?_))); (case side2 => exact HC1.out); rintro e w9 ⟨rfl, hb⟩; have n0_ := Aside0.mk (below_step (by repeat (first | (with_reducible first | exact HB.out | apply below_alloc | apply pw_below_drewN | apply below_drew1) | exact HB.out)) hb); clear HB; have HB := n0_; clear n0_; (try clear hb); (try clear hb2); (try clear hk); (try clear hi)))
        repeat (go_quiet (first | (go_at_call 18; (with_reducible refine (vinculumref26_Few.calls k _ _ l1 300 t342 _ ?side1 ?side2 A8.out).mono ?_); (case side1 => repeat (first | exact (Kd.C_below HR1.out HB.out) | (with_reducible refine Kd.C_alloc ?_ _) | (with_reducible refine Kd.C_drewN ?_ _) | (with_reducible refine Kd.C_drew ?_))); (case side2 => exact HC1.out); rintro e w9 ⟨rfl, hb⟩; have n0_ := Aside0.mk (below_step (by repeat (first | (with_reducible first | exact HB.out | apply below_alloc | apply pw_below_drewN | apply below_drew1) | exact HB.out)) hb); clear HB; have HB := n0_; clear n0_; (try clear hb); (try clear hb2); (try clear hk); (try clear hi))); try go_wp2_with (first | (go_at_call 18; (with_reducible refine (vinculumref26_Few.calls k _ _ l1 300 t342 _ ?side1 ?side2 A8.out).mono ?_); (case side1 => repeat (first | exact (Kd.C_below HR1.out HB.out) | (with_reducible refine Kd.C_alloc ?_ _) | (with_reducible refine Kd.C_drewN ?_ _) | (with_reducible refine Kd.C_drew ?_))); (case side2 => exact HC1.out); rintro e w9 ⟨rfl, hb⟩; have n0_ := Aside0.mk (below_step (by repeat (first | (with_reducible first | exact HB.out | apply below_alloc | apply pw_below_drewN | apply below_drew1) | exact HB.out)) hb); clear HB; have HB := n0_; clear n0_; (try clear hb); (try clear hb2); (try clear hk); (try clear hi))))
        go_meet
        case rel => exact ⟨_, (!t342), (by first | rfl | (simp; done) | (simp [*]; done)), H', ⟨by first | omega | exact Nat.le_refl _⟩, ⟨by repeat (first | (with_reducible first | exact HB.out | apply below_alloc | apply pw_below_drewN | apply below_drew1) | exact HB.out)⟩⟩
    case rest =>
      clear HC5
      try clear c1
      try clear p2
      try clear c4
      try clear c7
      try clear c7b0
      try clear c7b1
      obtain ⟨kq, x23_4, rfl, HA, HJ4, HB⟩ := hcut
      cases kq with
      | zero => exact absurd HA.out (by simp [vinculumlaw43_BreakpointClasses.j0])
      | succ kj4 =>
        have H := HA.out
        clear HA
        simp only [vinculumlaw43_BreakpointClasses.j0] at H
        by_cases c10 : x23_4 = true
        · subst c10
          have H1 : (some true) = some r := by rw [if_pos rfl] at H; exact H
          clear H
          have H := H1
          clear H1
          obtain rfl := Option.some.inj H
          go_wp2
          repeat (go_quiet (fail); try go_wp2)
          all_goals go_ret
          all_goals exact ⟨by first | rfl | (simp [errW_none, errW_some] <;> rfl) | (simp [*, errW_none, errW_some] <;> rfl), by repeat (first | (with_reducible first | exact HB.out | apply below_alloc | apply pw_below_drewN | apply below_drew1) | exact HB.out)⟩
        · replace c10 := Bool.eq_false_iff.mpr c10
          subst c10
          have H1 : ((breakpoint_Places.f kj4 l0 l1).bind fun bt343 => (if bt343.2 = 0 then ((vinculumref26_Classes.f kj4 l0 l1).bind fun bt347 => (if (bt343.1.length : Int) = 0 then (vinculumlaw43_BreakpointClasses.j1 kj4 l1 bt343.1 bt347.1 true) else (if 0 < (bt343.1.length : Int) then (if (rd bt343.1 0) = 0 then (vinculumlaw43_BreakpointClasses.j1 kj4 l1 bt343.1 bt347.1 ((bt347.1.length : Int) != (l1.length : Int))) else (vinculumlaw43_BreakpointClasses.j1 kj4 l1 bt343.1 bt347.1 true)) else (none)))) else (some ((bt343.1.length : Int) == 0)))) = some r := by rw [if_neg (show ¬ (false = true) by decide)] at H; exact H
          clear H
          have H := H1
          clear H1
          replace H := Option.bind_eq_some_iff.mp H
          obtain ⟨⟨t343, t344⟩, A110, H⟩ := H
          replace H : (if t344 = 0 then ((vinculumref26_Classes.f kj4 l0 l1).bind fun bt347 => (if (t343.length : Int) = 0 then (vinculumlaw43_BreakpointClasses.j1 kj4 l1 t343 bt347.1 true) else (if 0 < (t343.length : Int) then (if (rd t343 0) = 0 then (vinculumlaw43_BreakpointClasses.j1 kj4 l1 t343 bt347.1 ((bt347.1.length : Int) != (l1.length : Int))) else (vinculumlaw43_BreakpointClasses.j1 kj4 l1 t343 bt347.1 true)) else (none)))) else (some ((t343.length : Int) == 0))) = some r := H
          have A11 := Aside0.mk A110
          clear A110
          by_cases c12 : t344 = 0
          · rw [if_pos c12] at H
            have c12b0 : (t344 == 0) = true := beq_iff_eq.mpr c12
            have c12b1 : (t344 != 0) = false := bne_eq_false_iff_eq.mpr c12
            clear c12
            replace H := Option.bind_eq_some_iff.mp H
            obtain ⟨⟨t347, t348⟩, A130, H⟩ := H
            replace H : (if (t343.length : Int) = 0 then (vinculumlaw43_BreakpointClasses.j1 kj4 l1 t343 t347 true) else (if 0 < (t343.length : Int) then (if (rd t343 0) = 0 then (vinculumlaw43_BreakpointClasses.j1 kj4 l1 t343 t347 ((t347.length : Int) != (l1.length : Int))) else (vinculumlaw43_BreakpointClasses.j1 kj4 l1 t343 t347 true)) else (none))) = some r := H
            have A13 := Aside0.mk A130
            clear A130
            have HC14 := Aside0.mk H
            clear H
            go_upto_region 9 with (first | (go_at_call 19; (with_reducible refine (breakpoint_Places.calls kj4 _ _ l0 _ _ l1 t343 t344 _ ?side1 ?side2 ?side3 ?side4 A11.out).mono ?_); (case side1 => repeat (first | exact (Kd.C_below HR0.out HB.out) | (with_reducible refine Kd.C_alloc ?_ _) | (with_reducible refine Kd.C_drewN ?_ _) | (with_reducible refine Kd.C_drew ?_))); (case side2 => exact HC0.out); (case side3 => repeat (first | exact (Kd.C_below HR1.out HB.out) | (with_reducible refine Kd.C_alloc ?_ _) | (with_reducible refine Kd.C_drewN ?_ _) | (with_reducible refine Kd.C_drew ?_))); (case side4 => exact HC1.out); rintro e w15 ⟨v345, rfl, ho0, hb⟩; have n0_ := Aside0.mk (Kd.R_lower ho0 (below_size (by repeat (first | (with_reducible first | exact HB.out | apply below_alloc | apply pw_below_drewN | apply below_drew1) | exact HB.out)))); have n1_ := Aside0.mk (below_step (by repeat (first | (with_reducible first | exact HB.out | apply below_alloc | apply pw_below_drewN | apply below_drew1) | exact HB.out)) hb); clear HB; have HO346 := n0_; have HB := n1_; clear n0_ n1_; (try clear hb); (try clear hb2); (try clear hk); (try clear hi); (try clear ho0)) | (go_at_call 22; (with_reducible refine (vinculumref26_Classes.calls kj4 _ _ l0 _ _ l1 t347 t348 _ ?side1 ?side2 ?side3 ?side4 A13.out).mono ?_); (case side1 => repeat (first | exact (Kd.C_below HR0.out HB.out) | (with_reducible refine Kd.C_alloc ?_ _) | (with_reducible refine Kd.C_drewN ?_ _) | (with_reducible refine Kd.C_drew ?_))); (case side2 => exact HC0.out); (case side3 => repeat (first | exact (Kd.C_below HR1.out HB.out) | (with_reducible refine Kd.C_alloc ?_ _) | (with_reducible refine Kd.C_drewN ?_ _) | (with_reducible refine Kd.C_drew ?_))); (case side4 => exact HC1.out); rintro e w16 ⟨v349, rfl, ho0, hb⟩; have n0_ := Aside0.mk (Kd.R_elder' (by (with_reducible repeat (first | apply Kd.R_alloc | apply Kd.R_drewN | apply Kd.R_drew)); exact HO346.out) (Kd.R_base ho0) hb); have n1_ := Aside0.mk (Kd.R_lower (Kd.R_new' ho0 (Kd.R_lt (by (with_reducible repeat (first | apply Kd.R_alloc | apply Kd.R_drewN | apply Kd.R_drew)); exact HO346.out))) (below_size (by repeat (first | (with_reducible first | exact HB.out | apply below_alloc | apply pw_below_drewN | apply below_drew1) | exact HB.out)))); have n2_ := Aside0.mk (below_step (by repeat (first | (with_reducible first | exact HB.out | apply below_alloc | apply pw_below_drewN | apply below_drew1) | exact HB.out)) hb); clear HO346; clear HB; have HO346 := n0_; have HO350 := n1_; have HB := n2_; clear n0_ n1_ n2_; (try clear hb); (try clear hb2); (try clear hk); (try clear hi); (try clear ho0)))
            repeat (go_quiet (first | (go_at_call 19; (with_reducible refine (breakpoint_Places.calls kj4 _ _ l0 _ _ l1 t343 t344 _ ?side1 ?side2 ?side3 ?side4 A11.out).mono ?_); (case side1 => repeat (first | exact (Kd.C_below HR0.out HB.out) | (with_reducible refine Kd.C_alloc ?_ _) | (with_reducible refine Kd.C_drewN ?_ _) | (with_reducible refine Kd.C_drew ?_))); (case side2 => exact HC0.out); (case side3 => repeat (first | exact (Kd.C_below HR1.out HB.out) | (with_reducible refine Kd.C_alloc ?_ _) | (with_reducible refine Kd.C_drewN ?_ _) | (with_reducible refine Kd.C_drew ?_))); (case side4 => exact HC1.out); rintro e w15 ⟨v345, rfl, ho0, hb⟩; have n0_ := Aside0.mk (Kd.R_lower ho0 (below_size (by repeat (first | (with_reducible first | exact HB.out | apply below_alloc | apply pw_below_drewN | apply below_drew1) | exact HB.out)))); have n1_ := Aside0.mk (below_step (by repeat (first | (with_reducible first | exact HB.out | apply below_alloc | apply pw_below_drewN | apply below_drew1) | exact HB.out)) hb); clear HB; have HO346 := n0_; have HB := n1_; clear n0_ n1_; (try clear hb); (try clear hb2); (try clear hk); (try clear hi); (try clear ho0)) | (go_at_call 22; (with_reducible refine (vinculumref26_Classes.calls kj4 _ _ l0 _ _ l1 t347 t348 _ ?side1 ?side2 ?side3 ?side4 A13.out).mono ?_); (case side1 => repeat (first | exact (Kd.C_below HR0.out HB.out) | (with_reducible refine Kd.C_alloc ?_ _) | (with_reducible refine Kd.C_drewN ?_ _) | (with_reducible refine Kd.C_drew ?_))); (case side2 => exact HC0.out); (case side3 => repeat (first | exact (Kd.C_below HR1.out HB.out) | (with_reducible refine Kd.C_alloc ?_ _) | (with_reducible refine Kd.C_drewN ?_ _) | (with_reducible refine Kd.C_drew ?_))); (case side4 => exact HC1.out); rintro e w16 ⟨v349, rfl, ho0, hb⟩; have n0_ := Aside0.mk (Kd.R_elder' (by (with_reducible repeat (first | apply Kd.R_alloc | apply Kd.R_drewN | apply Kd.R_drew)); exact HO346.out) (Kd.R_base ho0) hb); have n1_ := Aside0.mk (Kd.R_lower (Kd.R_new' ho0 (Kd.R_lt (by (with_reducible repeat (first | apply Kd.R_alloc | apply Kd.R_drewN | apply Kd.R_drew)); exact HO346.out))) (below_size (by repeat (first | (with_reducible first | exact HB.out | apply below_alloc | apply pw_below_drewN | apply below_drew1) | exact HB.out)))); have n2_ := Aside0.mk (below_step (by repeat (first | (with_reducible first | exact HB.out | apply below_alloc | apply pw_below_drewN | apply below_drew1) | exact HB.out)) hb); clear HO346; clear HB; have HO346 := n0_; have HO350 := n1_; have HB := n2_; clear n0_ n1_ n2_; (try clear hb); (try clear hb2); (try clear hk); (try clear hi); (try clear ho0))); go_upto_region 9 with (first | (go_at_call 19; (with_reducible refine (breakpoint_Places.calls kj4 _ _ l0 _ _ l1 t343 t344 _ ?side1 ?side2 ?side3 ?side4 A11.out).mono ?_); (case side1 => repeat (first | exact (Kd.C_below HR0.out HB.out) | (with_reducible refine Kd.C_alloc ?_ _) | (with_reducible refine Kd.C_drewN ?_ _) | (with_reducible refine Kd.C_drew ?_))); (case side2 => exact HC0.out); (case side3 => repeat (first | exact (Kd.C_below HR1.out HB.out) | (with_reducible refine Kd.C_alloc ?_ _) | (with_reducible refine Kd.C_drewN ?_ _) | (with_reducible refine Kd.C_drew ?_))); (case side4 => exact HC1.out); rintro e w15 ⟨v345, rfl, ho0, hb⟩; have n0_ := Aside0.mk (Kd.R_lower ho0 (below_size (by repeat (first | (with_reducible first | exact HB.out | apply below_alloc | apply pw_below_drewN | apply below_drew1) | exact HB.out)))); have n1_ := Aside0.mk (below_step (by repeat (first | (with_reducible first | exact HB.out | apply below_alloc | apply pw_below_drewN | apply below_drew1) | exact HB.out)) hb); clear HB; have HO346 := n0_; have HB := n1_; clear n0_ n1_; (try clear hb); (try clear hb2); (try clear hk); (try clear hi); (try clear ho0)) | (go_at_call 22; (with_reducible refine (vinculumref26_Classes.calls kj4 _ _ l0 _ _ l1 t347 t348 _ ?side1 ?side2 ?side3 ?side4 A13.out).mono ?_); (case side1 => repeat (first | exact (Kd.C_below HR0.out HB.out) | (with_reducible refine Kd.C_alloc ?_ _) | (with_reducible refine Kd.C_drewN ?_ _) | (with_reducible refine Kd.C_drew ?_))); (case side2 => exact HC0.out); (case side3 => repeat (first | exact (Kd.C_below HR1.out HB.out) | (with_reducible refine Kd.C_alloc ?_ _) | (with_reducible refine Kd.C_drewN ?_ _) | (with_reducible refine Kd.C_drew ?_))); (case side4 => exact HC1.out); rintro e w16 ⟨v349, rfl, ho0, hb⟩; have n0_ := Aside0.mk (Kd.R_elder' (by (with_reducible repeat (first | apply Kd.R_alloc | apply Kd.R_drewN | apply Kd.R_drew)); exact HO346.out) (Kd.R_base ho0) hb); have n1_ := Aside0.mk (Kd.R_lower (Kd.R_new' ho0 (Kd.R_lt (by (with_reducible repeat (first | apply Kd.R_alloc | apply Kd.R_drewN | apply Kd.R_drew)); exact HO346.out))) (below_size (by repeat (first | (with_reducible first | exact HB.out | apply below_alloc | apply pw_below_drewN | apply below_drew1) | exact HB.out)))); have n2_ := Aside0.mk (below_step (by repeat (first | (with_reducible first | exact HB.out | apply below_alloc | apply pw_below_drewN | apply below_drew1) | exact HB.out)) hb); clear HO346; clear HB; have HO346 := n0_; have HO350 := n1_; have HB := n2_; clear n0_ n1_ n2_; (try clear hb); (try clear hb2); (try clear hk); (try clear hi); (try clear ho0))))
            (try simp only [Act.put, List.setIfInBounds_toArray, List.set_cons_zero, List.set_cons_succ])
            go_cut [56] (fun v56 wc => ∃ (kq : Nat) (x56_13 : Bool), v56 = .bool x56_13 ∧ Aside0 (vinculumlaw43_BreakpointClasses.j1 kq l1 t343 t347 x56_13 = some r) ∧ Aside0 (kq ≤ kj4) ∧ Aside0 (Kd.R (Kd.int .i64) 3 wc w.heap.size (fun k_ => some k_ ≠ (v349 : Value).ownBlock) v345 t343) ∧ Aside0 (Kd.R (Kd.int .i64) 3 wc w.heap.size (fun k_ => some k_ ≠ (v345 : Value).ownBlock) v349 t347) ∧ Aside0 (Below w.heap.size w wc))
            case first =>
              have H := HC14.out
              clear HC14
              by_cases c17 : (t343.length : Int) = 0
              · rw [if_pos c17] at H
                have c17b0 : ((t343.length : Int) == 0) = true := beq_iff_eq.mpr c17
                have c17b1 : ((t343.length : Int) != 0) = false := bne_eq_false_iff_eq.mpr c17
                clear c17
                (first | rw [c17b0] | (simp only [i64_w, i32_w]; rw [c17b0]) | skip)
                have H' := Aside0.mk H
                clear H
                obtain ⟨Ao18, co18, eo18⟩ := Kd.R_slice HO346.out
                subst eo18
                go_wp2
                repeat (go_quiet (fail); try go_wp2)
                go_meet
                case rel => exact ⟨_, (true), (by first | rfl | (simp; done) | (simp [*]; done)), H', ⟨by have := HJ4.out; first | omega | exact Nat.le_refl _⟩, ⟨by (with_reducible repeat (first | apply Kd.R_alloc | apply Kd.R_drewN | apply Kd.R_drew)); exact Kd.R_mono HO346.out (fun _ hk => hk.2)⟩, ⟨by (with_reducible repeat (first | apply Kd.R_alloc | apply Kd.R_drewN | apply Kd.R_drew)); exact Kd.R_mono HO350.out (fun _ hk => hk.2)⟩, ⟨by repeat (first | (with_reducible first | exact HB.out | apply below_alloc | apply pw_below_drewN | apply below_drew1) | exact HB.out)⟩⟩
              · rw [if_neg c17] at H
                have c17b0 : ((t343.length : Int) == 0) = false := beq_eq_false_iff_ne.mpr c17
                have c17b1 : ((t343.length : Int) != 0) = true := bne_iff_ne.mpr c17
                have c17b2 : ¬ (t343 = []) := fun h_ => c17 (by rw [h_]; rfl)
                (first | rw [c17b0] | (simp only [i64_w, i32_w]; rw [c17b0]) | skip)
                by_cases c19 : 0 < (t343.length : Int)
                · rw [if_pos c19] at H
                  have c19b0 : decide (0 < (t343.length : Int)) = true := decide_eq_true c19
                  have c19b1 : decide (0 < t343.length) = true := decide_eq_true (by omega)
                  clear c19
                  by_cases c20 : (rd t343 0) = 0
                  · rw [if_pos c20] at H
                    have c20b0 : ((rd t343 0) == 0) = true := beq_iff_eq.mpr c20
                    have c20b1 : ((rd t343 0) != 0) = false := bne_eq_false_iff_eq.mpr c20
                    clear c20
                    have H' := Aside0.mk H
                    clear H
                    obtain ⟨Ao21, co21, eo21⟩ := Kd.R_slice HO346.out
                    subst eo21
                    have p351 : 0 ≤ (0 : Int) := (by omega)
                    have q351 : 0 < (t343.length : Int) := of_decide_eq_true (by first | (with_reducible assumption) | assumption)
                    obtain ⟨ad351, e351, hx351_0⟩ := Kd.at_int (Kd.R_reads' HO346.out).2.2 0 p351 q351
                    cases e351
                    have qi351 : (0 < t343.length) = True := eq_true (by omega)
                    (try rw [show ((0 : Int)).toNat = 0 from rfl] at hx351_0)
                    (try rw [Addr.add_zero'] at hx351_0)
                    replace p351 := eq_true p351
                    replace q351 := eq_true q351
                    obtain ⟨Ao22, co22, eo22⟩ := Kd.R_slice HO350.out
                    subst eo22
                    go_wp2
                    repeat (go_quiet (fail); try go_wp2)
                    go_meet
                    case rel => exact ⟨_, (((t347.length : Int) != (l1.length : Int))), (by first | rfl | (simp; done) | (simp [*]; done)), H', ⟨by have := HJ4.out; first | omega | exact Nat.le_refl _⟩, ⟨by (with_reducible repeat (first | apply Kd.R_alloc | apply Kd.R_drewN | apply Kd.R_drew)); exact Kd.R_mono HO346.out (fun _ hk => hk.2)⟩, ⟨by (with_reducible repeat (first | apply Kd.R_alloc | apply Kd.R_drewN | apply Kd.R_drew)); exact Kd.R_mono HO350.out (fun _ hk => hk.2)⟩, ⟨by repeat (first | (with_reducible first | exact HB.out | apply below_alloc | apply pw_below_drewN | apply below_drew1) | exact HB.out)⟩⟩
                  · rw [if_neg c20] at H
                    have c20b0 : ((rd t343 0) == 0) = false := beq_eq_false_iff_ne.mpr c20
                    have c20b1 : ((rd t343 0) != 0) = true := bne_iff_ne.mpr c20
                    have H' := Aside0.mk H
                    clear H
                    obtain ⟨Ao23, co23, eo23⟩ := Kd.R_slice HO346.out
                    subst eo23
                    have p351 : 0 ≤ (0 : Int) := (by omega)
                    have q351 : 0 < (t343.length : Int) := of_decide_eq_true (by first | (with_reducible assumption) | assumption)
                    obtain ⟨ad351, e351, hx351_0⟩ := Kd.at_int (Kd.R_reads' HO346.out).2.2 0 p351 q351
                    cases e351
                    have qi351 : (0 < t343.length) = True := eq_true (by omega)
                    (try rw [show ((0 : Int)).toNat = 0 from rfl] at hx351_0)
                    (try rw [Addr.add_zero'] at hx351_0)
                    replace p351 := eq_true p351
                    replace q351 := eq_true q351
                    go_wp2
                    repeat (go_quiet (fail); try go_wp2)
                    go_meet
                    case rel => exact ⟨_, (true), (by first | rfl | (simp; done) | (simp [*]; done)), H', ⟨by have := HJ4.out; first | omega | exact Nat.le_refl _⟩, ⟨by (with_reducible repeat (first | apply Kd.R_alloc | apply Kd.R_drewN | apply Kd.R_drew)); exact Kd.R_mono HO346.out (fun _ hk => hk.2)⟩, ⟨by (with_reducible repeat (first | apply Kd.R_alloc | apply Kd.R_drewN | apply Kd.R_drew)); exact Kd.R_mono HO350.out (fun _ hk => hk.2)⟩, ⟨by repeat (first | (with_reducible first | exact HB.out | apply below_alloc | apply pw_below_drewN | apply below_drew1) | exact HB.out)⟩⟩
                · rw [if_neg c19] at H
                  exact absurd H (by simp)
            case rest =>
              clear HC14
              try clear c1
              try clear c2
              try clear p2
              try clear p3
              try clear q3
              try clear hx3
              try clear qi3
              try clear c4
              try clear c7
              try clear c7b0
              try clear c7b1
              try clear c10
              try clear c12
              try clear c12b0
              try clear c12b1
              try clear c17
              try clear c17b0
              try clear c17b1
              try clear c17b2
              try clear c19
              try clear c19b0
              try clear c19b1
              try clear c20
              try clear c20b0
              try clear c20b1
              try clear hx351_0
              try clear p2
              try clear p351
              try clear q351
              obtain ⟨kq, x56_13, rfl, HA, HJ13, HO_5, HO_7, HB⟩ := hcut
              cases kq with
              | zero => exact absurd HA.out (by simp [vinculumlaw43_BreakpointClasses.j1])
              | succ kj13 =>
                have H := HA.out
                clear HA
                simp only [vinculumlaw43_BreakpointClasses.j1] at H
                by_cases c24 : x56_13 = true
                · subst c24
                  have H1 : (some false) = some r := by rw [if_pos rfl] at H; exact H
                  clear H
                  have H := H1
                  clear H1
                  obtain rfl := Option.some.inj H
                  go_wp2
                  repeat (go_quiet (fail); try go_wp2)
                  all_goals go_ret
                  all_goals exact ⟨by first | rfl | (simp [errW_none, errW_some] <;> rfl) | (simp [*, errW_none, errW_some] <;> rfl), by repeat (first | (with_reducible first | exact HB.out | apply below_alloc | apply pw_below_drewN | apply below_drew1) | exact HB.out)⟩
                · replace c24 := Bool.eq_false_iff.mpr c24
                  subst c24
                  have H1 : (vinculumlaw43_BreakpointClasses.l0 kj13 l1 t343 t347 1 1) = some r := by rw [if_neg (show ¬ (false = true) by decide)] at H; exact H
                  clear H
                  have H := H1
                  clear H1
                  have H' := Aside0.mk H
                  clear H
                  go_wp2
                  repeat (go_quiet (fail); try go_wp2)
                  go_loopg [9, 10] kj13 (fun kq v9 v10 w' => ∃ (x9_3 : Int) (x10_3 : Int), v9 = .int .i64 x9_3 ∧ v10 = .int .i64 x10_3 ∧ Aside0 (vinculumlaw43_BreakpointClasses.l0 kq l1 t343 t347 x9_3 x10_3 = some r) ∧ Aside0 (kq ≤ kj13) ∧ Aside0 (Kd.R (Kd.int .i64) 3 w' w.heap.size (fun k_ => some k_ ≠ (v349 : Value).ownBlock) v345 t343) ∧ Aside0 (Kd.R (Kd.int .i64) 3 w' w.heap.size (fun k_ => some k_ ≠ (v345 : Value).ownBlock) v349 t347) ∧ Aside0 (Below w.heap.size w w'))
                  case atStart => exact ⟨(1), (1), (by first | rfl | (simp; done) | (simp [*]; done)), (by first | rfl | (simp; done) | (simp [*]; done)), H', ⟨Nat.le_refl _⟩, ⟨by (with_reducible repeat (first | apply Kd.R_alloc | apply Kd.R_drewN | apply Kd.R_drew)); exact HO_5.out⟩, ⟨by (with_reducible repeat (first | apply Kd.R_alloc | apply Kd.R_drewN | apply Kd.R_drew)); exact HO_7.out⟩, ⟨by repeat (first | (with_reducible first | exact HB.out | apply below_alloc | apply pw_below_drewN | apply below_drew1) | exact HB.out)⟩⟩
                  case round =>
                    clear H'
                    try clear c1
                    try clear c2
                    try clear p2
                    try clear p3
                    try clear q3
                    try clear hx3
                    try clear qi3
                    try clear c4
                    try clear c7
                    try clear c7b0
                    try clear c7b1
                    try clear c10
                    try clear c12
                    try clear c12b0
                    try clear c12b1
                    try clear c17
                    try clear c17b0
                    try clear c17b1
                    try clear c17b2
                    try clear c19
                    try clear c19b0
                    try clear c19b1
                    try clear c20
                    try clear c20b0
                    try clear c20b1
                    try clear c24
                    try clear hx351_0
                    try clear p2
                    try clear p3
                    try clear p351
                    try clear q3
                    try clear q351
                    obtain ⟨x9_3, x10_3, rfl, rfl, HA, HK3, HO_5, HO_7, HB⟩ := hrel
                    cases gk with
                    | zero => exact absurd HA.out (by simp [vinculumlaw43_BreakpointClasses.l0])
                    | succ k3 =>
                      have H := HA.out
                      clear HA
                      simp only [vinculumlaw43_BreakpointClasses.l0] at H
                      by_cases c25 : x10_3 < (l1.length : Int)
                      · rw [if_pos c25] at H
                        have c25b0 : decide (x10_3 < (l1.length : Int)) = true := decide_eq_true c25
                        clear c25
                        have HC26 := Aside0.mk H
                        clear H
                        go_upto_region 15 with (fail)
                        repeat (go_quiet (fail); go_upto_region 15 with (fail))
                        go_cut [11] (fun v11 wc => ∃ (kq : Nat) (x11_25 : Bool), v11 = .bool x11_25 ∧ Aside0 (vinculumlaw43_BreakpointClasses.j3 kq l1 t343 t347 x9_3 x10_3 x11_25 = some r) ∧ Aside0 (kq ≤ k3) ∧ Aside0 (Kd.R (Kd.int .i64) 3 wc w.heap.size (fun k_ => some k_ ≠ (v349 : Value).ownBlock) v345 t343) ∧ Aside0 (Kd.R (Kd.int .i64) 3 wc w.heap.size (fun k_ => some k_ ≠ (v345 : Value).ownBlock) v349 t347) ∧ Aside0 (Below w.heap.size w wc))
                        case first =>
                          have H := HC26.out
                          clear HC26
                          by_cases c27 : x9_3 < (t343.length : Int)
                          · rw [if_pos c27] at H
                            have c27b0 : decide (x9_3 < (t343.length : Int)) = true := decide_eq_true c27
                            clear c27
                            (first | rw [c27b0] | (simp only [i64_w, i32_w]; rw [c27b0]) | skip)
                            by_cases c28 : 0 ≤ x9_3
                            · rw [if_pos c28] at H
                              have c28b0 : decide (0 ≤ x9_3) = true := decide_eq_true c28
                              clear c28
                              have H' := Aside0.mk H
                              clear H
                              obtain ⟨Ao29, co29, eo29⟩ := Kd.R_slice HO_5.out
                              subst eo29
                              have p352 : 0 ≤ (x9_3 : Int) := of_decide_eq_true (by first | (with_reducible assumption) | assumption)
                              have q352 : x9_3 < (t343.length : Int) := of_decide_eq_true (by first | (with_reducible assumption) | assumption)
                              obtain ⟨ad352, e352, hx352_0⟩ := Kd.at_int (Kd.R_reads' HO_5.out).2.2 x9_3 p352 q352
                              cases e352
                              replace p352 := eq_true p352
                              replace q352 := eq_true q352
                              go_wp2
                              repeat (go_quiet (fail); try go_wp2)
                              go_meet
                              case rel => exact ⟨_, (((rd t343 x9_3) == x10_3)), (by first | rfl | (simp; done) | (simp [*]; done)), H', ⟨by have := HJ4.out; have := HJ13.out; have := HK3.out; first | omega | exact Nat.le_refl _⟩, ⟨by (with_reducible repeat (first | apply Kd.R_alloc | apply Kd.R_drewN | apply Kd.R_drew)); exact HO_5.out⟩, ⟨by (with_reducible repeat (first | apply Kd.R_alloc | apply Kd.R_drewN | apply Kd.R_drew)); exact HO_7.out⟩, ⟨by repeat (first | (with_reducible first | exact HB.out | apply below_alloc | apply pw_below_drewN | apply below_drew1) | exact HB.out)⟩⟩
                            · rw [if_neg c28] at H
                              exact absurd H (by simp)
                          · rw [if_neg c27] at H
                            have c27b0 : decide (x9_3 < (t343.length : Int)) = false := decide_eq_false c27
                            clear c27
                            (first | rw [c27b0] | (simp only [i64_w, i32_w]; rw [c27b0]) | skip)
                            have H' := Aside0.mk H
                            clear H
                            obtain ⟨Ao30, co30, eo30⟩ := Kd.R_slice HO_5.out
                            subst eo30
                            go_wp2
                            repeat (go_quiet (fail); try go_wp2)
                            go_meet
                            case rel => exact ⟨_, (false), (by first | rfl | (simp; done) | (simp [*]; done)), H', ⟨by have := HJ4.out; have := HJ13.out; have := HK3.out; first | omega | exact Nat.le_refl _⟩, ⟨by (with_reducible repeat (first | apply Kd.R_alloc | apply Kd.R_drewN | apply Kd.R_drew)); exact HO_5.out⟩, ⟨by (with_reducible repeat (first | apply Kd.R_alloc | apply Kd.R_drewN | apply Kd.R_drew)); exact HO_7.out⟩, ⟨by repeat (first | (with_reducible first | exact HB.out | apply below_alloc | apply pw_below_drewN | apply below_drew1) | exact HB.out)⟩⟩
                        case rest =>
                          clear HC26
                          try clear c1
                          try clear c2
                          try clear p2
                          try clear p3
                          try clear q3
                          try clear hx3
                          try clear qi3
                          try clear c4
                          try clear c7
                          try clear c7b0
                          try clear c7b1
                          try clear c10
                          try clear c12
                          try clear c12b0
                          try clear c12b1
                          try clear c17
                          try clear c17b0
                          try clear c17b1
                          try clear c17b2
                          try clear c19
                          try clear c19b0
                          try clear c19b1
                          try clear c20
                          try clear c20b0
                          try clear c20b1
                          try clear c24
                          try clear c25
                          try clear c25b0
                          try clear c27
                          try clear c27b0
                          try clear c28
                          try clear c28b0
                          try clear hx351_0
                          try clear hx352_0
                          try clear p2
                          try clear p3
                          try clear p351
                          try clear p352
                          try clear q3
                          try clear q351
                          try clear q352
                          obtain ⟨kq, x11_25, rfl, HA, HJ25, HO_5, HO_7, HB⟩ := hcut
                          cases kq with
                          | zero => exact absurd HA.out (by simp [vinculumlaw43_BreakpointClasses.j3])
                          | succ kj25 =>
                            have H := HA.out
                            clear HA
                            simp only [vinculumlaw43_BreakpointClasses.j3] at H
                            by_cases c31 : x11_25 = true
                            · subst c31
                              have H1 : (if 0 ≤ x10_3 then (if x10_3 < (t347.length : Int) then (if (rd t347 x10_3) = 2 then (if (true != true) = true then (some false) else (vinculumlaw43_BreakpointClasses.l0 kj25 l1 t343 t347 (wrap64 (x9_3 + 1)) (wrap64 (x10_3 + 1)))) else (if (rd t347 x10_3) = 3 then (if 0 ≤ (wrap64 (x10_3 - 1)) then (if (wrap64 (x10_3 - 1)) < (t347.length : Int) then (if (true != ((rd t347 (wrap64 (x10_3 - 1))) != 3)) = true then (some false) else (vinculumlaw43_BreakpointClasses.l0 kj25 l1 t343 t347 (wrap64 (x9_3 + 1)) (wrap64 (x10_3 + 1)))) else (none)) else (none)) else (if (true != false) = true then (some false) else (vinculumlaw43_BreakpointClasses.l0 kj25 l1 t343 t347 (wrap64 (x9_3 + 1)) (wrap64 (x10_3 + 1)))))) else (none)) else (none)) = some r := by rw [if_pos rfl] at H; exact H
                              clear H
                              have H := H1
                              clear H1
                              by_cases c32 : 0 ≤ x10_3
                              · rw [if_pos c32] at H
                                have c32b0 : decide (0 ≤ x10_3) = true := decide_eq_true c32
                                clear c32
                                by_cases c33 : x10_3 < (t347.length : Int)
                                · rw [if_pos c33] at H
                                  have c33b0 : decide (x10_3 < (t347.length : Int)) = true := decide_eq_true c33
                                  clear c33
                                  by_cases c34 : (rd t347 x10_3) = 2
                                  · rw [if_pos c34] at H
                                    have c34b0 : ((rd t347 x10_3) == 2) = true := beq_iff_eq.mpr c34
                                    have c34b1 : ((rd t347 x10_3) != 2) = false := bne_eq_false_iff_eq.mpr c34
                                    clear c34
                                    by_cases c35 : (true != true) = true
                                    · rw [if_pos c35] at H
                                      have c35b0 : (true != true) = true := c35
                                      (try (have c35b1 : decide (true = true) = false := by revert c35; simp))
                                      (try (have c35b2 : (true == true) = false := by revert c35; simp))
                                      (try (have c35b3 : ¬ (true = true) := by revert c35; simp))
                                      clear c35
                                      obtain rfl := Option.some.inj H
                                      obtain ⟨Ao36, co36, eo36⟩ := Kd.R_slice HO_7.out
                                      subst eo36
                                      have p353 : 0 ≤ (x10_3 : Int) := of_decide_eq_true (by first | (with_reducible assumption) | assumption)
                                      have q353 : x10_3 < (t347.length : Int) := of_decide_eq_true (by first | (with_reducible assumption) | assumption)
                                      obtain ⟨ad353, e353, hx353_0⟩ := Kd.at_int (Kd.R_reads' HO_7.out).2.2 x10_3 p353 q353
                                      cases e353
                                      replace p353 := eq_true p353
                                      replace q353 := eq_true q353
                                      have p354 : 0 ≤ (x10_3 : Int) := of_decide_eq_true (by first | (with_reducible assumption) | assumption)
                                      have q354 : x10_3 < (t347.length : Int) := of_decide_eq_true (by first | (with_reducible assumption) | assumption)
                                      obtain ⟨ad354, e354, hx354_0⟩ := Kd.at_int (Kd.R_reads' HO_7.out).2.2 x10_3 p354 q354
                                      obtain rfl : ad353 = ad354 := (by injection e354)
                                      replace p354 := eq_true p354
                                      replace q354 := eq_true q354
                                      go_wp2
                                      repeat (go_quiet (fail); try go_wp2)
                                      all_goals go_ret
                                      all_goals exact ⟨by first | rfl | (simp [errW_none, errW_some] <;> rfl) | (simp [*, errW_none, errW_some] <;> rfl), by repeat (first | (with_reducible first | exact HB.out | apply below_alloc | apply pw_below_drewN | apply below_drew1) | exact HB.out)⟩
                                    · rw [if_neg c35] at H
                                      have c35b0 : (true != true) = false := by revert c35; simp
                                      (try (have c35b1 : decide (true = true) = true := by revert c35; simp))
                                      (try (have c35b2 : (true == true) = true := by revert c35; simp))
                                      clear c35
                                      have H' := Aside0.mk H
                                      clear H
                                      obtain ⟨Ao37, co37, eo37⟩ := Kd.R_slice HO_7.out
                                      subst eo37
                                      have p353 : 0 ≤ (x10_3 : Int) := of_decide_eq_true (by first | (with_reducible assumption) | assumption)
                                      have q353 : x10_3 < (t347.length : Int) := of_decide_eq_true (by first | (with_reducible assumption) | assumption)
                                      obtain ⟨ad353, e353, hx353_0⟩ := Kd.at_int (Kd.R_reads' HO_7.out).2.2 x10_3 p353 q353
                                      cases e353
                                      replace p353 := eq_true p353
                                      replace q353 := eq_true q353
                                      have p354 : 0 ≤ (x10_3 : Int) := of_decide_eq_true (by first | (with_reducible assumption) | assumption)
                                      have q354 : x10_3 < (t347.length : Int) := of_decide_eq_true (by first | (with_reducible assumption) | assumption)
                                      obtain ⟨ad354, e354, hx354_0⟩ := Kd.at_int (Kd.R_reads' HO_7.out).2.2 x10_3 p354 q354
                                      obtain rfl : ad353 = ad354 := (by injection e354)
                                      replace p354 := eq_true p354
                                      replace q354 := eq_true q354
                                      go_wp2
                                      repeat (go_quiet (fail); try go_wp2)
                                      go_roundg kj25
                                      case measure => have := HJ4.out; have := HJ13.out; have := HK3.out; have := HJ25.out; omega
                                      case rel => exact ⟨(wrap64 (x9_3 + 1)), (wrap64 (x10_3 + 1)), (by first | rfl | (simp; done) | (simp [*]; done)), (by first | rfl | (simp; done) | (simp [*]; done)), H', ⟨by have := HJ4.out; have := HJ13.out; have := HK3.out; have := HJ25.out; omega⟩, ⟨by (with_reducible repeat (first | apply Kd.R_alloc | apply Kd.R_drewN | apply Kd.R_drew)); exact HO_5.out⟩, ⟨by (with_reducible repeat (first | apply Kd.R_alloc | apply Kd.R_drewN | apply Kd.R_drew)); exact HO_7.out⟩, ⟨by repeat (first | (with_reducible first | exact HB.out | apply below_alloc | apply pw_below_drewN | apply below_drew1) | exact HB.out)⟩⟩
                                  · rw [if_neg c34] at H
                                    have c34b0 : ((rd t347 x10_3) == 2) = false := beq_eq_false_iff_ne.mpr c34
                                    have c34b1 : ((rd t347 x10_3) != 2) = true := bne_iff_ne.mpr c34
                                    by_cases c38 : (rd t347 x10_3) = 3
                                    · rw [if_pos c38] at H
                                      have c38b0 : ((rd t347 x10_3) == 3) = true := beq_iff_eq.mpr c38
                                      have c38b1 : ((rd t347 x10_3) != 3) = false := bne_eq_false_iff_eq.mpr c38
                                      clear c38
                                      obtain ⟨ji39, hji39⟩ : ∃ j_ : Int, (wrap64 (x10_3 - 1)) = j_ := ⟨_, rfl⟩
                                      replace H : (if 0 ≤ (ji39) then (if (ji39) < (t347.length : Int) then (if (true != ((rd t347 (ji39)) != 3)) = true then (some false) else (vinculumlaw43_BreakpointClasses.l0 kj25 l1 t343 t347 (wrap64 (x9_3 + 1)) (wrap64 (x10_3 + 1)))) else (none)) else (none)) = some r := by first | (rw [hji39] at H; exact H) | (simp only [hji39] at H ⊢; exact H)
                                      have hji39w : (IntKind.i64.wrap (x10_3 - 1)) = ji39 := (i64_w _).trans hji39
                                      by_cases c40 : 0 ≤ (ji39)
                                      · rw [if_pos c40] at H
                                        have c40b0 : decide (0 ≤ (ji39)) = true := decide_eq_true c40
                                        clear c40
                                        by_cases c41 : (ji39) < (t347.length : Int)
                                        · rw [if_pos c41] at H
                                          have c41b0 : decide ((ji39) < (t347.length : Int)) = true := decide_eq_true c41
                                          clear c41
                                          by_cases c42 : (true != ((rd t347 (ji39)) != 3)) = true
                                          · rw [if_pos c42] at H
                                            have c42b0 : (true != ((rd t347 (ji39)) != 3)) = true := c42
                                            (try (have c42b1 : decide (true = ((rd t347 (ji39)) != 3)) = false := by revert c42; simp))
                                            (try (have c42b2 : (true == ((rd t347 (ji39)) != 3)) = false := by revert c42; simp))
                                            (try (have c42b3 : ¬ (true = ((rd t347 (ji39)) != 3)) := by revert c42; simp))
                                            clear c42
                                            obtain rfl := Option.some.inj H
                                            obtain ⟨Ao43, co43, eo43⟩ := Kd.R_slice HO_7.out
                                            subst eo43
                                            have p353 : 0 ≤ (x10_3 : Int) := of_decide_eq_true (by first | (with_reducible assumption) | assumption)
                                            have q353 : x10_3 < (t347.length : Int) := of_decide_eq_true (by first | (with_reducible assumption) | assumption)
                                            obtain ⟨ad353, e353, hx353_0⟩ := Kd.at_int (Kd.R_reads' HO_7.out).2.2 x10_3 p353 q353
                                            cases e353
                                            replace p353 := eq_true p353
                                            replace q353 := eq_true q353
                                            have p354 : 0 ≤ (x10_3 : Int) := of_decide_eq_true (by first | (with_reducible assumption) | assumption)
                                            have q354 : x10_3 < (t347.length : Int) := of_decide_eq_true (by first | (with_reducible assumption) | assumption)
                                            obtain ⟨ad354, e354, hx354_0⟩ := Kd.at_int (Kd.R_reads' HO_7.out).2.2 x10_3 p354 q354
                                            obtain rfl : ad353 = ad354 := (by injection e354)
                                            replace p354 := eq_true p354
                                            replace q354 := eq_true q354
                                            have p355 : 0 ≤ ((ji39) : Int) := of_decide_eq_true (by first | (with_reducible assumption) | assumption)
                                            have q355 : (ji39) < (t347.length : Int) := of_decide_eq_true (by first | (with_reducible assumption) | assumption)
                                            obtain ⟨ad355, e355, hx355_0⟩ := Kd.at_int (Kd.R_reads' HO_7.out).2.2 (ji39) p355 q355
                                            obtain rfl : ad353 = ad355 := (by injection e355)
                                            replace p355 := eq_true p355
                                            replace q355 := eq_true q355
                                            go_wp2
                                            repeat (go_quiet (fail); try go_wp2)
                                            all_goals go_ret
                                            all_goals exact ⟨by first | rfl | (simp [errW_none, errW_some] <;> rfl) | (simp only [← hji39]; first | rfl | (simp [errW_none, errW_some] <;> rfl)) | (simp [*, errW_none, errW_some] <;> rfl), by repeat (first | (with_reducible first | exact HB.out | apply below_alloc | apply pw_below_drewN | apply below_drew1) | exact HB.out)⟩
                                          · rw [if_neg c42] at H
                                            have c42b0 : (true != ((rd t347 (ji39)) != 3)) = false := by revert c42; simp
                                            (try (have c42b1 : decide (true = ((rd t347 (ji39)) != 3)) = true := by revert c42; simp))
                                            (try (have c42b2 : (true == ((rd t347 (ji39)) != 3)) = true := by revert c42; simp))
                                            clear c42
                                            have H' := Aside0.mk H
                                            clear H
                                            obtain ⟨Ao44, co44, eo44⟩ := Kd.R_slice HO_7.out
                                            subst eo44
                                            have p353 : 0 ≤ (x10_3 : Int) := of_decide_eq_true (by first | (with_reducible assumption) | assumption)
                                            have q353 : x10_3 < (t347.length : Int) := of_decide_eq_true (by first | (with_reducible assumption) | assumption)
                                            obtain ⟨ad353, e353, hx353_0⟩ := Kd.at_int (Kd.R_reads' HO_7.out).2.2 x10_3 p353 q353
                                            cases e353
                                            replace p353 := eq_true p353
                                            replace q353 := eq_true q353
                                            have p354 : 0 ≤ (x10_3 : Int) := of_decide_eq_true (by first | (with_reducible assumption) | assumption)
                                            have q354 : x10_3 < (t347.length : Int) := of_decide_eq_true (by first | (with_reducible assumption) | assumption)
                                            obtain ⟨ad354, e354, hx354_0⟩ := Kd.at_int (Kd.R_reads' HO_7.out).2.2 x10_3 p354 q354
                                            obtain rfl : ad353 = ad354 := (by injection e354)
                                            replace p354 := eq_true p354
                                            replace q354 := eq_true q354
                                            have p355 : 0 ≤ ((ji39) : Int) := of_decide_eq_true (by first | (with_reducible assumption) | assumption)
                                            have q355 : (ji39) < (t347.length : Int) := of_decide_eq_true (by first | (with_reducible assumption) | assumption)
                                            obtain ⟨ad355, e355, hx355_0⟩ := Kd.at_int (Kd.R_reads' HO_7.out).2.2 (ji39) p355 q355
                                            obtain rfl : ad353 = ad355 := (by injection e355)
                                            replace p355 := eq_true p355
                                            replace q355 := eq_true q355
                                            go_wp2
                                            repeat (go_quiet (fail); try go_wp2)
                                            go_roundg kj25
                                            case measure => have := HJ4.out; have := HJ13.out; have := HK3.out; have := HJ25.out; omega
                                            case rel => exact ⟨(wrap64 (x9_3 + 1)), (wrap64 (x10_3 + 1)), (by first | rfl | (simp; done) | (simp [*]; done)), (by first | rfl | (simp; done) | (simp [*]; done)), H', ⟨by have := HJ4.out; have := HJ13.out; have := HK3.out; have := HJ25.out; omega⟩, ⟨by (with_reducible repeat (first | apply Kd.R_alloc | apply Kd.R_drewN | apply Kd.R_drew)); exact HO_5.out⟩, ⟨by (with_reducible repeat (first | apply Kd.R_alloc | apply Kd.R_drewN | apply Kd.R_drew)); exact HO_7.out⟩, ⟨by repeat (first | (with_reducible first | exact HB.out | apply below_alloc | apply pw_below_drewN | apply below_drew1) | exact HB.out)⟩⟩
                                        · rw [if_neg c41] at H
                                          exact absurd H (by simp)
                                      · rw [if_neg c40] at H
                                        exact absurd H (by simp)
                                    · rw [if_neg c38] at H
                                      have c38b0 : ((rd t347 x10_3) == 3) = false := beq_eq_false_iff_ne.mpr c38
                                      have c38b1 : ((rd t347 x10_3) != 3) = true := bne_iff_ne.mpr c38
                                      by_cases c45 : (true != false) = true
                                      · rw [if_pos c45] at H
                                        have c45b0 : (true != false) = true := c45
                                        (try (have c45b1 : decide (true = false) = false := by revert c45; simp))
                                        (try (have c45b2 : (true == false) = false := by revert c45; simp))
                                        (try (have c45b3 : ¬ (true = false) := by revert c45; simp))
                                        clear c45
                                        obtain rfl := Option.some.inj H
                                        obtain ⟨Ao46, co46, eo46⟩ := Kd.R_slice HO_7.out
                                        subst eo46
                                        have p353 : 0 ≤ (x10_3 : Int) := of_decide_eq_true (by first | (with_reducible assumption) | assumption)
                                        have q353 : x10_3 < (t347.length : Int) := of_decide_eq_true (by first | (with_reducible assumption) | assumption)
                                        obtain ⟨ad353, e353, hx353_0⟩ := Kd.at_int (Kd.R_reads' HO_7.out).2.2 x10_3 p353 q353
                                        cases e353
                                        replace p353 := eq_true p353
                                        replace q353 := eq_true q353
                                        have p354 : 0 ≤ (x10_3 : Int) := of_decide_eq_true (by first | (with_reducible assumption) | assumption)
                                        have q354 : x10_3 < (t347.length : Int) := of_decide_eq_true (by first | (with_reducible assumption) | assumption)
                                        obtain ⟨ad354, e354, hx354_0⟩ := Kd.at_int (Kd.R_reads' HO_7.out).2.2 x10_3 p354 q354
                                        obtain rfl : ad353 = ad354 := (by injection e354)
                                        replace p354 := eq_true p354
                                        replace q354 := eq_true q354
                                        go_wp2
                                        repeat (go_quiet (fail); try go_wp2)
                                        all_goals go_ret
                                        all_goals exact ⟨by first | rfl | (simp [errW_none, errW_some] <;> rfl) | (simp [*, errW_none, errW_some] <;> rfl), by repeat (first | (with_reducible first | exact HB.out | apply below_alloc | apply pw_below_drewN | apply below_drew1) | exact HB.out)⟩
                                      · rw [if_neg c45] at H
                                        have c45b0 : (true != false) = false := by revert c45; simp
                                        (try (have c45b1 : decide (true = false) = true := by revert c45; simp))
                                        (try (have c45b2 : (true == false) = true := by revert c45; simp))
                                        clear c45
                                        have H' := Aside0.mk H
                                        clear H
                                        obtain ⟨Ao47, co47, eo47⟩ := Kd.R_slice HO_7.out
                                        subst eo47
                                        have p353 : 0 ≤ (x10_3 : Int) := of_decide_eq_true (by first | (with_reducible assumption) | assumption)
                                        have q353 : x10_3 < (t347.length : Int) := of_decide_eq_true (by first | (with_reducible assumption) | assumption)
                                        obtain ⟨ad353, e353, hx353_0⟩ := Kd.at_int (Kd.R_reads' HO_7.out).2.2 x10_3 p353 q353
                                        cases e353
                                        replace p353 := eq_true p353
                                        replace q353 := eq_true q353
                                        have p354 : 0 ≤ (x10_3 : Int) := of_decide_eq_true (by first | (with_reducible assumption) | assumption)
                                        have q354 : x10_3 < (t347.length : Int) := of_decide_eq_true (by first | (with_reducible assumption) | assumption)
                                        obtain ⟨ad354, e354, hx354_0⟩ := Kd.at_int (Kd.R_reads' HO_7.out).2.2 x10_3 p354 q354
                                        obtain rfl : ad353 = ad354 := (by injection e354)
                                        replace p354 := eq_true p354
                                        replace q354 := eq_true q354
                                        go_wp2
                                        repeat (go_quiet (fail); try go_wp2)
                                        go_roundg kj25
                                        case measure => have := HJ4.out; have := HJ13.out; have := HK3.out; have := HJ25.out; omega
                                        case rel => exact ⟨(wrap64 (x9_3 + 1)), (wrap64 (x10_3 + 1)), (by first | rfl | (simp; done) | (simp [*]; done)), (by first | rfl | (simp; done) | (simp [*]; done)), H', ⟨by have := HJ4.out; have := HJ13.out; have := HK3.out; have := HJ25.out; omega⟩, ⟨by (with_reducible repeat (first | apply Kd.R_alloc | apply Kd.R_drewN | apply Kd.R_drew)); exact HO_5.out⟩, ⟨by (with_reducible repeat (first | apply Kd.R_alloc | apply Kd.R_drewN | apply Kd.R_drew)); exact HO_7.out⟩, ⟨by repeat (first | (with_reducible first | exact HB.out | apply below_alloc | apply pw_below_drewN | apply below_drew1) | exact HB.out)⟩⟩
                                · rw [if_neg c33] at H
                                  exact absurd H (by simp)
                              · rw [if_neg c32] at H
                                exact absurd H (by simp)
                            · replace c31 := Bool.eq_false_iff.mpr c31
                              subst c31
                              have H1 : (if 0 ≤ x10_3 then (if x10_3 < (t347.length : Int) then (if (rd t347 x10_3) = 2 then (if (false != true) = true then (some false) else (vinculumlaw43_BreakpointClasses.l0 kj25 l1 t343 t347 x9_3 (wrap64 (x10_3 + 1)))) else (if (rd t347 x10_3) = 3 then (if 0 ≤ (wrap64 (x10_3 - 1)) then (if (wrap64 (x10_3 - 1)) < (t347.length : Int) then (if (false != ((rd t347 (wrap64 (x10_3 - 1))) != 3)) = true then (some false) else (vinculumlaw43_BreakpointClasses.l0 kj25 l1 t343 t347 x9_3 (wrap64 (x10_3 + 1)))) else (none)) else (none)) else (if (false != false) = true then (some false) else (vinculumlaw43_BreakpointClasses.l0 kj25 l1 t343 t347 x9_3 (wrap64 (x10_3 + 1)))))) else (none)) else (none)) = some r := by rw [if_neg (show ¬ (false = true) by decide)] at H; exact H
                              clear H
                              have H := H1
                              clear H1
                              by_cases c48 : 0 ≤ x10_3
                              · rw [if_pos c48] at H
                                have c48b0 : decide (0 ≤ x10_3) = true := decide_eq_true c48
                                clear c48
                                by_cases c49 : x10_3 < (t347.length : Int)
                                · rw [if_pos c49] at H
                                  have c49b0 : decide (x10_3 < (t347.length : Int)) = true := decide_eq_true c49
                                  clear c49
                                  by_cases c50 : (rd t347 x10_3) = 2
                                  · rw [if_pos c50] at H
                                    have c50b0 : ((rd t347 x10_3) == 2) = true := beq_iff_eq.mpr c50
                                    have c50b1 : ((rd t347 x10_3) != 2) = false := bne_eq_false_iff_eq.mpr c50
                                    clear c50
                                    by_cases c51 : (false != true) = true
                                    · rw [if_pos c51] at H
                                      have c51b0 : (false != true) = true := c51
                                      (try (have c51b1 : decide (false = true) = false := by revert c51; simp))
                                      (try (have c51b2 : (false == true) = false := by revert c51; simp))
                                      (try (have c51b3 : ¬ (false = true) := by revert c51; simp))
                                      clear c51
                                      obtain rfl := Option.some.inj H
                                      obtain ⟨Ao52, co52, eo52⟩ := Kd.R_slice HO_7.out
                                      subst eo52
                                      have p356 : 0 ≤ (x10_3 : Int) := of_decide_eq_true (by first | (with_reducible assumption) | assumption)
                                      have q356 : x10_3 < (t347.length : Int) := of_decide_eq_true (by first | (with_reducible assumption) | assumption)
                                      obtain ⟨ad356, e356, hx356_0⟩ := Kd.at_int (Kd.R_reads' HO_7.out).2.2 x10_3 p356 q356
                                      cases e356
                                      replace p356 := eq_true p356
                                      replace q356 := eq_true q356
                                      have p357 : 0 ≤ (x10_3 : Int) := of_decide_eq_true (by first | (with_reducible assumption) | assumption)
                                      have q357 : x10_3 < (t347.length : Int) := of_decide_eq_true (by first | (with_reducible assumption) | assumption)
                                      obtain ⟨ad357, e357, hx357_0⟩ := Kd.at_int (Kd.R_reads' HO_7.out).2.2 x10_3 p357 q357
                                      obtain rfl : ad356 = ad357 := (by injection e357)
                                      replace p357 := eq_true p357
                                      replace q357 := eq_true q357
                                      go_wp2
                                      repeat (go_quiet (fail); try go_wp2)
                                      all_goals go_ret
                                      all_goals exact ⟨by first | rfl | (simp [errW_none, errW_some] <;> rfl) | (simp [*, errW_none, errW_some] <;> rfl), by repeat (first | (with_reducible first | exact HB.out | apply below_alloc | apply pw_below_drewN | apply below_drew1) | exact HB.out)⟩
                                    · rw [if_neg c51] at H
                                      have c51b0 : (false != true) = false := by revert c51; simp
                                      (try (have c51b1 : decide (false = true) = true := by revert c51; simp))
                                      (try (have c51b2 : (false == true) = true := by revert c51; simp))
                                      clear c51
                                      have H' := Aside0.mk H
                                      clear H
                                      obtain ⟨Ao53, co53, eo53⟩ := Kd.R_slice HO_7.out
                                      subst eo53
                                      have p356 : 0 ≤ (x10_3 : Int) := of_decide_eq_true (by first | (with_reducible assumption) | assumption)
                                      have q356 : x10_3 < (t347.length : Int) := of_decide_eq_true (by first | (with_reducible assumption) | assumption)
                                      obtain ⟨ad356, e356, hx356_0⟩ := Kd.at_int (Kd.R_reads' HO_7.out).2.2 x10_3 p356 q356
                                      cases e356
                                      replace p356 := eq_true p356
                                      replace q356 := eq_true q356
                                      have p357 : 0 ≤ (x10_3 : Int) := of_decide_eq_true (by first | (with_reducible assumption) | assumption)
                                      have q357 : x10_3 < (t347.length : Int) := of_decide_eq_true (by first | (with_reducible assumption) | assumption)
                                      obtain ⟨ad357, e357, hx357_0⟩ := Kd.at_int (Kd.R_reads' HO_7.out).2.2 x10_3 p357 q357
                                      obtain rfl : ad356 = ad357 := (by injection e357)
                                      replace p357 := eq_true p357
                                      replace q357 := eq_true q357
                                      go_wp2
                                      repeat (go_quiet (fail); try go_wp2)
                                      go_roundg kj25
                                      case measure => have := HJ4.out; have := HJ13.out; have := HK3.out; have := HJ25.out; omega
                                      case rel => exact ⟨(x9_3), (wrap64 (x10_3 + 1)), (by first | rfl | (simp; done) | (simp [*]; done)), (by first | rfl | (simp; done) | (simp [*]; done)), H', ⟨by have := HJ4.out; have := HJ13.out; have := HK3.out; have := HJ25.out; omega⟩, ⟨by (with_reducible repeat (first | apply Kd.R_alloc | apply Kd.R_drewN | apply Kd.R_drew)); exact HO_5.out⟩, ⟨by (with_reducible repeat (first | apply Kd.R_alloc | apply Kd.R_drewN | apply Kd.R_drew)); exact HO_7.out⟩, ⟨by repeat (first | (with_reducible first | exact HB.out | apply below_alloc | apply pw_below_drewN | apply below_drew1) | exact HB.out)⟩⟩
                                  · rw [if_neg c50] at H
                                    have c50b0 : ((rd t347 x10_3) == 2) = false := beq_eq_false_iff_ne.mpr c50
                                    have c50b1 : ((rd t347 x10_3) != 2) = true := bne_iff_ne.mpr c50
                                    by_cases c54 : (rd t347 x10_3) = 3
                                    · rw [if_pos c54] at H
                                      have c54b0 : ((rd t347 x10_3) == 3) = true := beq_iff_eq.mpr c54
                                      have c54b1 : ((rd t347 x10_3) != 3) = false := bne_eq_false_iff_eq.mpr c54
                                      clear c54
                                      obtain ⟨ji55, hji55⟩ : ∃ j_ : Int, (wrap64 (x10_3 - 1)) = j_ := ⟨_, rfl⟩
                                      replace H : (if 0 ≤ (ji55) then (if (ji55) < (t347.length : Int) then (if (false != ((rd t347 (ji55)) != 3)) = true then (some false) else (vinculumlaw43_BreakpointClasses.l0 kj25 l1 t343 t347 x9_3 (wrap64 (x10_3 + 1)))) else (none)) else (none)) = some r := by first | (rw [hji55] at H; exact H) | (simp only [hji55] at H ⊢; exact H)
                                      have hji55w : (IntKind.i64.wrap (x10_3 - 1)) = ji55 := (i64_w _).trans hji55
                                      by_cases c56 : 0 ≤ (ji55)
                                      · rw [if_pos c56] at H
                                        have c56b0 : decide (0 ≤ (ji55)) = true := decide_eq_true c56
                                        clear c56
                                        by_cases c57 : (ji55) < (t347.length : Int)
                                        · rw [if_pos c57] at H
                                          have c57b0 : decide ((ji55) < (t347.length : Int)) = true := decide_eq_true c57
                                          clear c57
                                          by_cases c58 : (false != ((rd t347 (ji55)) != 3)) = true
                                          · rw [if_pos c58] at H
                                            have c58b0 : (false != ((rd t347 (ji55)) != 3)) = true := c58
                                            (try (have c58b1 : decide (false = ((rd t347 (ji55)) != 3)) = false := by revert c58; simp))
                                            (try (have c58b2 : (false == ((rd t347 (ji55)) != 3)) = false := by revert c58; simp))
                                            (try (have c58b3 : ¬ (false = ((rd t347 (ji55)) != 3)) := by revert c58; simp))
                                            clear c58
                                            obtain rfl := Option.some.inj H
                                            obtain ⟨Ao59, co59, eo59⟩ := Kd.R_slice HO_7.out
                                            subst eo59
                                            have p356 : 0 ≤ (x10_3 : Int) := of_decide_eq_true (by first | (with_reducible assumption) | assumption)
                                            have q356 : x10_3 < (t347.length : Int) := of_decide_eq_true (by first | (with_reducible assumption) | assumption)
                                            obtain ⟨ad356, e356, hx356_0⟩ := Kd.at_int (Kd.R_reads' HO_7.out).2.2 x10_3 p356 q356
                                            cases e356
                                            replace p356 := eq_true p356
                                            replace q356 := eq_true q356
                                            have p357 : 0 ≤ (x10_3 : Int) := of_decide_eq_true (by first | (with_reducible assumption) | assumption)
                                            have q357 : x10_3 < (t347.length : Int) := of_decide_eq_true (by first | (with_reducible assumption) | assumption)
                                            obtain ⟨ad357, e357, hx357_0⟩ := Kd.at_int (Kd.R_reads' HO_7.out).2.2 x10_3 p357 q357
                                            obtain rfl : ad356 = ad357 := (by injection e357)
                                            replace p357 := eq_true p357
                                            replace q357 := eq_true q357
                                            have p358 : 0 ≤ ((ji55) : Int) := of_decide_eq_true (by first | (with_reducible assumption) | assumption)
                                            have q358 : (ji55) < (t347.length : Int) := of_decide_eq_true (by first | (with_reducible assumption) | assumption)
                                            obtain ⟨ad358, e358, hx358_0⟩ := Kd.at_int (Kd.R_reads' HO_7.out).2.2 (ji55) p358 q358
                                            obtain rfl : ad356 = ad358 := (by injection e358)
                                            replace p358 := eq_true p358
                                            replace q358 := eq_true q358
                                            go_wp2
                                            repeat (go_quiet (fail); try go_wp2)
                                            all_goals go_ret
                                            all_goals exact ⟨by first | rfl | (simp [errW_none, errW_some] <;> rfl) | (simp only [← hji55]; first | rfl | (simp [errW_none, errW_some] <;> rfl)) | (simp [*, errW_none, errW_some] <;> rfl), by repeat (first | (with_reducible first | exact HB.out | apply below_alloc | apply pw_below_drewN | apply below_drew1) | exact HB.out)⟩
                                          · rw [if_neg c58] at H
                                            have c58b0 : (false != ((rd t347 (ji55)) != 3)) = false := by revert c58; simp
                                            (try (have c58b1 : decide (false = ((rd t347 (ji55)) != 3)) = true := by revert c58; simp))
                                            (try (have c58b2 : (false == ((rd t347 (ji55)) != 3)) = true := by revert c58; simp))
                                            clear c58
                                            have H' := Aside0.mk H
                                            clear H
                                            obtain ⟨Ao60, co60, eo60⟩ := Kd.R_slice HO_7.out
                                            subst eo60
                                            have p356 : 0 ≤ (x10_3 : Int) := of_decide_eq_true (by first | (with_reducible assumption) | assumption)
                                            have q356 : x10_3 < (t347.length : Int) := of_decide_eq_true (by first | (with_reducible assumption) | assumption)
                                            obtain ⟨ad356, e356, hx356_0⟩ := Kd.at_int (Kd.R_reads' HO_7.out).2.2 x10_3 p356 q356
                                            cases e356
                                            replace p356 := eq_true p356
                                            replace q356 := eq_true q356
                                            have p357 : 0 ≤ (x10_3 : Int) := of_decide_eq_true (by first | (with_reducible assumption) | assumption)
                                            have q357 : x10_3 < (t347.length : Int) := of_decide_eq_true (by first | (with_reducible assumption) | assumption)
                                            obtain ⟨ad357, e357, hx357_0⟩ := Kd.at_int (Kd.R_reads' HO_7.out).2.2 x10_3 p357 q357
                                            obtain rfl : ad356 = ad357 := (by injection e357)
                                            replace p357 := eq_true p357
                                            replace q357 := eq_true q357
                                            have p358 : 0 ≤ ((ji55) : Int) := of_decide_eq_true (by first | (with_reducible assumption) | assumption)
                                            have q358 : (ji55) < (t347.length : Int) := of_decide_eq_true (by first | (with_reducible assumption) | assumption)
                                            obtain ⟨ad358, e358, hx358_0⟩ := Kd.at_int (Kd.R_reads' HO_7.out).2.2 (ji55) p358 q358
                                            obtain rfl : ad356 = ad358 := (by injection e358)
                                            replace p358 := eq_true p358
                                            replace q358 := eq_true q358
                                            go_wp2
                                            repeat (go_quiet (fail); try go_wp2)
                                            go_roundg kj25
                                            case measure => have := HJ4.out; have := HJ13.out; have := HK3.out; have := HJ25.out; omega
                                            case rel => exact ⟨(x9_3), (wrap64 (x10_3 + 1)), (by first | rfl | (simp; done) | (simp [*]; done)), (by first | rfl | (simp; done) | (simp [*]; done)), H', ⟨by have := HJ4.out; have := HJ13.out; have := HK3.out; have := HJ25.out; omega⟩, ⟨by (with_reducible repeat (first | apply Kd.R_alloc | apply Kd.R_drewN | apply Kd.R_drew)); exact HO_5.out⟩, ⟨by (with_reducible repeat (first | apply Kd.R_alloc | apply Kd.R_drewN | apply Kd.R_drew)); exact HO_7.out⟩, ⟨by repeat (first | (with_reducible first | exact HB.out | apply below_alloc | apply pw_below_drewN | apply below_drew1) | exact HB.out)⟩⟩
                                        · rw [if_neg c57] at H
                                          exact absurd H (by simp)
                                      · rw [if_neg c56] at H
                                        exact absurd H (by simp)
                                    · rw [if_neg c54] at H
                                      have c54b0 : ((rd t347 x10_3) == 3) = false := beq_eq_false_iff_ne.mpr c54
                                      have c54b1 : ((rd t347 x10_3) != 3) = true := bne_iff_ne.mpr c54
                                      by_cases c61 : (false != false) = true
                                      · rw [if_pos c61] at H
                                        have c61b0 : (false != false) = true := c61
                                        (try (have c61b1 : decide (false = false) = false := by revert c61; simp))
                                        (try (have c61b2 : (false == false) = false := by revert c61; simp))
                                        (try (have c61b3 : ¬ (false = false) := by revert c61; simp))
                                        clear c61
                                        obtain rfl := Option.some.inj H
                                        obtain ⟨Ao62, co62, eo62⟩ := Kd.R_slice HO_7.out
                                        subst eo62
                                        have p356 : 0 ≤ (x10_3 : Int) := of_decide_eq_true (by first | (with_reducible assumption) | assumption)
                                        have q356 : x10_3 < (t347.length : Int) := of_decide_eq_true (by first | (with_reducible assumption) | assumption)
                                        obtain ⟨ad356, e356, hx356_0⟩ := Kd.at_int (Kd.R_reads' HO_7.out).2.2 x10_3 p356 q356
                                        cases e356
                                        replace p356 := eq_true p356
                                        replace q356 := eq_true q356
                                        have p357 : 0 ≤ (x10_3 : Int) := of_decide_eq_true (by first | (with_reducible assumption) | assumption)
                                        have q357 : x10_3 < (t347.length : Int) := of_decide_eq_true (by first | (with_reducible assumption) | assumption)
                                        obtain ⟨ad357, e357, hx357_0⟩ := Kd.at_int (Kd.R_reads' HO_7.out).2.2 x10_3 p357 q357
                                        obtain rfl : ad356 = ad357 := (by injection e357)
                                        replace p357 := eq_true p357
                                        replace q357 := eq_true q357
                                        go_wp2
                                        repeat (go_quiet (fail); try go_wp2)
                                        all_goals go_ret
                                        all_goals exact ⟨by first | rfl | (simp [errW_none, errW_some] <;> rfl) | (simp [*, errW_none, errW_some] <;> rfl), by repeat (first | (with_reducible first | exact HB.out | apply below_alloc | apply pw_below_drewN | apply below_drew1) | exact HB.out)⟩
                                      · rw [if_neg c61] at H
                                        have c61b0 : (false != false) = false := by revert c61; simp
                                        (try (have c61b1 : decide (false = false) = true := by revert c61; simp))
                                        (try (have c61b2 : (false == false) = true := by revert c61; simp))
                                        clear c61
                                        have H' := Aside0.mk H
                                        clear H
                                        obtain ⟨Ao63, co63, eo63⟩ := Kd.R_slice HO_7.out
                                        subst eo63
                                        have p356 : 0 ≤ (x10_3 : Int) := of_decide_eq_true (by first | (with_reducible assumption) | assumption)
                                        have q356 : x10_3 < (t347.length : Int) := of_decide_eq_true (by first | (with_reducible assumption) | assumption)
                                        obtain ⟨ad356, e356, hx356_0⟩ := Kd.at_int (Kd.R_reads' HO_7.out).2.2 x10_3 p356 q356
                                        cases e356
                                        replace p356 := eq_true p356
                                        replace q356 := eq_true q356
                                        have p357 : 0 ≤ (x10_3 : Int) := of_decide_eq_true (by first | (with_reducible assumption) | assumption)
                                        have q357 : x10_3 < (t347.length : Int) := of_decide_eq_true (by first | (with_reducible assumption) | assumption)
                                        obtain ⟨ad357, e357, hx357_0⟩ := Kd.at_int (Kd.R_reads' HO_7.out).2.2 x10_3 p357 q357
                                        obtain rfl : ad356 = ad357 := (by injection e357)
                                        replace p357 := eq_true p357
                                        replace q357 := eq_true q357
                                        go_wp2
                                        repeat (go_quiet (fail); try go_wp2)
                                        go_roundg kj25
                                        case measure => have := HJ4.out; have := HJ13.out; have := HK3.out; have := HJ25.out; omega
                                        case rel => exact ⟨(x9_3), (wrap64 (x10_3 + 1)), (by first | rfl | (simp; done) | (simp [*]; done)), (by first | rfl | (simp; done) | (simp [*]; done)), H', ⟨by have := HJ4.out; have := HJ13.out; have := HK3.out; have := HJ25.out; omega⟩, ⟨by (with_reducible repeat (first | apply Kd.R_alloc | apply Kd.R_drewN | apply Kd.R_drew)); exact HO_5.out⟩, ⟨by (with_reducible repeat (first | apply Kd.R_alloc | apply Kd.R_drewN | apply Kd.R_drew)); exact HO_7.out⟩, ⟨by repeat (first | (with_reducible first | exact HB.out | apply below_alloc | apply pw_below_drewN | apply below_drew1) | exact HB.out)⟩⟩
                                · rw [if_neg c49] at H
                                  exact absurd H (by simp)
                              · rw [if_neg c48] at H
                                exact absurd H (by simp)
                      · rw [if_neg c25] at H
                        have c25b0 : decide (x10_3 < (l1.length : Int)) = false := decide_eq_false c25
                        clear c25
                        obtain rfl := Option.some.inj H
                        obtain ⟨Ao64, co64, eo64⟩ := Kd.R_slice HO_5.out
                        subst eo64
                        go_wp2
                        repeat (go_quiet (fail); try go_wp2)
                        all_goals go_ret
                        all_goals exact ⟨by first | rfl | (simp [errW_none, errW_some] <;> rfl) | (simp [*, errW_none, errW_some] <;> rfl), by repeat (first | (with_reducible first | exact HB.out | apply below_alloc | apply pw_below_drewN | apply below_drew1) | exact HB.out)⟩
          · rw [if_neg c12] at H
            have c12b0 : (t344 == 0) = false := beq_eq_false_iff_ne.mpr c12
            have c12b1 : (t344 != 0) = true := bne_iff_ne.mpr c12
            obtain rfl := Option.some.inj H
            go_wp2_with (first | (go_at_call 19; (with_reducible refine (breakpoint_Places.calls kj4 _ _ l0 _ _ l1 t343 t344 _ ?side1 ?side2 ?side3 ?side4 A11.out).mono ?_); (case side1 => repeat (first | exact (Kd.C_below HR0.out HB.out) | (with_reducible refine Kd.C_alloc ?_ _) | (with_reducible refine Kd.C_drewN ?_ _) | (with_reducible refine Kd.C_drew ?_))); (case side2 => exact HC0.out); (case side3 => repeat (first | exact (Kd.C_below HR1.out HB.out) | (with_reducible refine Kd.C_alloc ?_ _) | (with_reducible refine Kd.C_drewN ?_ _) | (with_reducible refine Kd.C_drew ?_))); (case side4 => exact HC1.out); rintro e w65 ⟨v345, rfl, ho0, hb⟩; have n0_ := Aside0.mk (Kd.R_lower ho0 (below_size (by repeat (first | (with_reducible first | exact HB.out | apply below_alloc | apply pw_below_drewN | apply below_drew1) | exact HB.out)))); have n1_ := Aside0.mk (below_step (by repeat (first | (with_reducible first | exact HB.out | apply below_alloc | apply pw_below_drewN | apply below_drew1) | exact HB.out)) hb); clear HB; have HO346 := n0_; have HB := n1_; clear n0_ n1_; (try clear hb); (try clear hb2); (try clear hk); (try clear hi); (try clear ho0); obtain ⟨Ao66, co66, eo66⟩ := Kd.R_slice HO346.out; subst eo66))
            repeat (go_quiet (first | (go_at_call 19; (with_reducible refine (breakpoint_Places.calls kj4 _ _ l0 _ _ l1 t343 t344 _ ?side1 ?side2 ?side3 ?side4 A11.out).mono ?_); (case side1 => repeat (first | exact (Kd.C_below HR0.out HB.out) | (with_reducible refine Kd.C_alloc ?_ _) | (with_reducible refine Kd.C_drewN ?_ _) | (with_reducible refine Kd.C_drew ?_))); (case side2 => exact HC0.out); (case side3 => repeat (first | exact (Kd.C_below HR1.out HB.out) | (with_reducible refine Kd.C_alloc ?_ _) | (with_reducible refine Kd.C_drewN ?_ _) | (with_reducible refine Kd.C_drew ?_))); (case side4 => exact HC1.out); rintro e w65 ⟨v345, rfl, ho0, hb⟩; have n0_ := Aside0.mk (Kd.R_lower ho0 (below_size (by repeat (first | (with_reducible first | exact HB.out | apply below_alloc | apply pw_below_drewN | apply below_drew1) | exact HB.out)))); have n1_ := Aside0.mk (below_step (by repeat (first | (with_reducible first | exact HB.out | apply below_alloc | apply pw_below_drewN | apply below_drew1) | exact HB.out)) hb); clear HB; have HO346 := n0_; have HB := n1_; clear n0_ n1_; (try clear hb); (try clear hb2); (try clear hk); (try clear hi); (try clear ho0); obtain ⟨Ao66, co66, eo66⟩ := Kd.R_slice HO346.out; subst eo66)); try go_wp2_with (first | (go_at_call 19; (with_reducible refine (breakpoint_Places.calls kj4 _ _ l0 _ _ l1 t343 t344 _ ?side1 ?side2 ?side3 ?side4 A11.out).mono ?_); (case side1 => repeat (first | exact (Kd.C_below HR0.out HB.out) | (with_reducible refine Kd.C_alloc ?_ _) | (with_reducible refine Kd.C_drewN ?_ _) | (with_reducible refine Kd.C_drew ?_))); (case side2 => exact HC0.out); (case side3 => repeat (first | exact (Kd.C_below HR1.out HB.out) | (with_reducible refine Kd.C_alloc ?_ _) | (with_reducible refine Kd.C_drewN ?_ _) | (with_reducible refine Kd.C_drew ?_))); (case side4 => exact HC1.out); rintro e w65 ⟨v345, rfl, ho0, hb⟩; have n0_ := Aside0.mk (Kd.R_lower ho0 (below_size (by repeat (first | (with_reducible first | exact HB.out | apply below_alloc | apply pw_below_drewN | apply below_drew1) | exact HB.out)))); have n1_ := Aside0.mk (below_step (by repeat (first | (with_reducible first | exact HB.out | apply below_alloc | apply pw_below_drewN | apply below_drew1) | exact HB.out)) hb); clear HB; have HO346 := n0_; have HB := n1_; clear n0_ n1_; (try clear hb); (try clear hb2); (try clear hk); (try clear hi); (try clear ho0); obtain ⟨Ao66, co66, eo66⟩ := Kd.R_slice HO346.out; subst eo66)))
            all_goals go_ret
            all_goals exact ⟨by first | rfl | (simp [errW_none, errW_some] <;> rfl) | (simp [*, errW_none, errW_some] <;> rfl), by repeat (first | (with_reducible first | exact HB.out | apply below_alloc | apply pw_below_drewN | apply below_drew1) | exact HB.out)⟩
  · replace c4 := Bool.eq_false_iff.mpr c4
    subst c4
    have H1 : (some false) = some r := by rw [if_neg (show ¬ (false = true) by decide)] at H; exact H
    clear H
    have H := H1
    clear H1
    obtain rfl := Option.some.inj H
    go_enter Tryd.func4, Tryd.ntmps4
    go_wp2_with (first | (go_at_call 17; (with_reducible refine (vinculumlaw43_awake.calls k  false _ A3.out).mono ?_); rintro e w67 ⟨rfl, hb⟩; have n0_ := Aside0.mk (below_step (by repeat (first | (with_reducible first | exact HB.out | apply below_alloc | apply pw_below_drewN | apply below_drew1) | exact HB.out)) hb); clear HB; have HB := n0_; clear n0_; (try clear hb); (try clear hb2); (try clear hk); (try clear hi)))
    repeat (go_quiet (first | (go_at_call 17; (with_reducible refine (vinculumlaw43_awake.calls k  false _ A3.out).mono ?_); rintro e w67 ⟨rfl, hb⟩; have n0_ := Aside0.mk (below_step (by repeat (first | (with_reducible first | exact HB.out | apply below_alloc | apply pw_below_drewN | apply below_drew1) | exact HB.out)) hb); clear HB; have HB := n0_; clear n0_; (try clear hb); (try clear hb2); (try clear hk); (try clear hi))); try go_wp2_with (first | (go_at_call 17; (with_reducible refine (vinculumlaw43_awake.calls k  false _ A3.out).mono ?_); rintro e w67 ⟨rfl, hb⟩; have n0_ := Aside0.mk (below_step (by repeat (first | (with_reducible first | exact HB.out | apply below_alloc | apply pw_below_drewN | apply below_drew1) | exact HB.out)) hb); clear HB; have HB := n0_; clear n0_; (try clear hb); (try clear hb2); (try clear hk); (try clear hi))))
    all_goals go_ret
    all_goals exact ⟨by first | rfl | (simp [errW_none, errW_some] <;> rfl) | (simp [*, errW_none, errW_some] <;> rfl), by repeat (first | (with_reducible first | exact HB.out | apply below_alloc | apply pw_below_drewN | apply below_drew1) | exact HB.out)⟩
end Go.Proofs.YtagkhoeidjlahaaDoor.G
namespace Go.Proofs.YtagkhoeidjlahaaDoor.G.Pure
open Go.Proofs.YtagkhoeidjlahaaDoorW.PrintWords Go.RowKit
set_option linter.unusedVariables false
set_option linter.unusedSimpArgs false
theorem plc_ge (cs : List Int) : ∀ (m i : Nat) (x : Int), x ∈ plc cs m i → (i : Int) ≤ x
  | 0, _, x, h => by simp [plc] at h
  | m + 1, i, x, h => by
    rw [plc] at h
    split at h
    · rcases List.mem_cons.1 h with rfl | h
      · omega
      · have := plc_ge cs m (i + 1) x h; omega
    · have := plc_ge cs m (i + 1) x h; omega
theorem good_rd {cs : List Int} (g : Good cs) (i : Nat) (h1 : 1 ≤ i) (h : i < cs.length) (h2 : rd cs i = 2) : rd cs ((i : Int) - 1) ≠ 3 := by
  obtain ⟨j, rfl⟩ : ∃ j, i = j + 1 := ⟨i - 1, by omega⟩
  rw [rdI_at _ _ h] at h2
  have := g.before j h h2
  rw [show ((j + 1 : Nat) : Int) - 1 = (j : Int) by omega, rdI_at _ j (by omega)]
  intro e
  rw [e] at this; cases this
theorem bcl_l (items : List S36) (cs : List Int) (he : items.length = cs.length) (hl : cs.length ≤ 1000) (g : Good cs) : ∀ (m i : Nat) (pre : List Int), cs.length - i = m → 1 ≤ i → i ≤ cs.length → pre.length ≤ i → Ev (fun k => vinculumlaw43_BreakpointClasses.l0 k items (pre ++ plc cs m i) cs pre.length i) true := by
  intro m
  induction m with
  | zero =>
    intro i pre h1 h2 h3 h4
    refine Ev.step (fun k => by rw [vinculumlaw43_BreakpointClasses.l0]) ?_
    refine ev_if (fun h => by omega) fun _ => ev_now ?_
    rw [plc, List.append_nil]; simp
  | succ m ih =>
    intro i pre h1 h2 h3 h4
    have hlt : i < cs.length := by omega
    have key : ∀ b, b = perB cs i → Ev (fun k => vinculumlaw43_BreakpointClasses.j3 k items (pre ++ plc cs (m + 1) i) cs pre.length i b) true := by
      intro b hb
      refine Ev.step (fun k => by rw [vinculumlaw43_BreakpointClasses.j3]) ?_
      rw [wr (n := (i : Int) - 1) (by omega), wr (n := (i : Int) + 1) (by omega), wr (n := (pre.length : Int) + 1) (by omega), plc]
      refine ev_if (fun ht => ?_) fun ht => ?_
      · subst ht
        rw [if_pos hb.symm]
        have nxt : Ev (fun k => vinculumlaw43_BreakpointClasses.l0 k items (pre ++ (i : Int) :: plc cs m (i + 1)) cs ((pre.length : Int) + 1) ((i : Int) + 1)) true := by
          have := ih (i + 1) (pre ++ [(i : Int)]) (by omega) (by omega) (by omega) (by simp; omega)
          rw [List.append_assoc, List.singleton_append, List.length_append, List.length_singleton] at this
          exact_mod_cast this
        refine ev_if (fun _ => ?_) fun h => by omega
        refine ev_if (fun _ => ?_) fun h => by omega
        refine ev_if (fun h2' => ?_) fun h2' => ?_
        · exact ev_if (fun h => by simp at h) fun _ => nxt
        refine ev_if (fun h3' => ?_) fun h3' => ?_
        · refine ev_if (fun _ => ?_) fun h => by omega
          refine ev_if (fun _ => ?_) fun h => by omega
          refine ev_if (fun h => ?_) fun _ => nxt
          unfold perB at hb
          rw [h3'] at hb
          simp at hb h
          exact absurd h (by simpa using hb)
        · unfold perB at hb
          simp [h2', h3'] at hb
      · rw [Bool.not_eq_true] at ht
        subst ht
        rw [if_neg (by rw [← hb]; simp)]
        have nxt : Ev (fun k => vinculumlaw43_BreakpointClasses.l0 k items (pre ++ plc cs m (i + 1)) cs pre.length ((i : Int) + 1)) true := by
          have := ih (i + 1) pre (by omega) (by omega) (by omega) (by omega)
          exact_mod_cast this
        refine ev_if (fun _ => ?_) fun h => by omega
        refine ev_if (fun _ => ?_) fun h => by omega
        refine ev_if (fun h2' => ?_) fun h2' => ?_
        · exfalso
          have := good_rd g i h2 hlt h2'
          unfold perB at hb
          simp [h2'] at hb
          exact this hb
        refine ev_if (fun h3' => ?_) fun h3' => ?_
        · refine ev_if (fun _ => ?_) fun h => by omega
          refine ev_if (fun _ => ?_) fun h => by omega
          refine ev_if (fun h => ?_) fun _ => nxt
          unfold perB at hb
          rw [h3'] at hb
          simp at hb h
          exact absurd hb h
        · exact ev_if (fun h => by simp at h) fun _ => nxt
    refine Ev.step (fun k => by rw [vinculumlaw43_BreakpointClasses.l0]) ?_
    refine ev_if (fun _ => ?_) fun h => by omega
    have hpl := plc_ge cs (m + 1) i
    refine ev_if (fun hk => ?_) fun hk => ?_
    · refine ev_if (fun _ => ?_) fun h => by omega
      refine key _ ?_
      rw [plc] at hk ⊢
      by_cases hp : perB cs i = true
      · rw [if_pos hp, rd_mid, hp]; simp
      · rw [Bool.not_eq_true] at hp
        rw [if_neg (by rw [hp]; simp)] at hk ⊢
        rw [hp, beq_eq_false_iff_ne]
        have hq := plc_ge cs m (i + 1)
        cases hr : plc cs m (i + 1) with
        | nil => rw [hr] at hk; simp at hk
        | cons y ys =>
          rw [rd_mid]
          have := hq y (by rw [hr]; simp)
          omega
    · refine key _ ?_
      rw [plc] at hk
      cases hp : perB cs i with
      | false => rfl
      | true =>
        rw [if_pos hp] at hk
        simp at hk
        omega
theorem BreakpointClasses (d : List S68) (items : List S36) (ho : OkL OkEntry d) (h : OkL OkNode items) : ∃ k, vinculumlaw43_BreakpointClasses.f k d items = some true := by
  apply Ev.rounds
  unfold vinculumlaw43_BreakpointClasses.f
  refine guard43 (α := Unit) d items h (g := fun k b => vinculumlaw43_BreakpointClasses.j0 k d items b) ?_ fun hd hc => ?_
  · exact Ev.step (fun k => by rw [vinculumlaw43_BreakpointClasses.j0]) (ev_if (fun _ => Ev.now _) fun h => absurd rfl h)
  · have hi := len_cnt items
    refine Ev.step (fun k => by rw [vinculumlaw43_BreakpointClasses.j0]) ?_
    refine ev_if (fun h => by cases h) fun _ => ?_
    refine ev_bind (pPl_ev d items (by omega) h (by omega)) ?_
    have e1 := clsB_len d items
    refine ev_if (fun h0 => ?_) fun h0 => ev_now ?_
    · have hv : (clsB d items).2 = 0 ∧ items.length ≠ 0 := by
        unfold plB at h0
        split at h0
        · split at h0
          · simp at h0
          · exact ⟨by assumption, by assumption⟩
        · rename_i h1; exact absurd h0 h1
      have ep : plB d items = (0 :: plc (clsB d items).1 (items.length - 1) 1, 0) := by unfold plB; rw [if_pos hv.1, if_neg hv.2]
      refine ev_bind (rClasses_ev d items (by omega) ho.2 h (by omega)) ?_
      rw [ep]
      refine ev_if (fun h => by simp at h <;> omega) fun _ => ?_
      refine ev_if (fun _ => ?_) fun h => by simp at h <;> omega
      refine ev_if (fun _ => ?_) fun h => absurd (by simp [rd]) h
      have el := e1 hv.1
      rw [show (((clsB d items).1.length : Int) != (items.length : Int)) = false by rw [el]; simp]
      refine Ev.step (fun k => by rw [vinculumlaw43_BreakpointClasses.j1]) ?_
      refine ev_if (fun h => by cases h) fun _ => ?_
      have g : Good (clsB d items).1 := by
        unfold clsB
        split
        · exact good_cls _
        · exact good_nil
      have := bcl_l items (clsB d items).1 el.symm (by omega) g (items.length - 1) 1 [0] (by omega) (by omega) (by omega) (by simp)
      exact_mod_cast this
    · unfold plB at h0 ⊢
      split at h0
      · rename_i hz
        rw [if_pos hz]
        split at h0
        · rename_i hz2; rw [if_pos hz2]; rfl
        · exact absurd rfl h0
      · rename_i hz; rw [if_neg hz]; rfl
end Go.Proofs.YtagkhoeidjlahaaDoor.G.Pure
namespace Go.Proofs.YtagkhoeidjlahaaDoor.breakpointClasses
open Go.ChangeShapes Go.WideShapes Go.ChangeAt Go.RowKit G
set_option linter.unusedVariables false
theorem own : ownKnob Tryd.prog.godebug = none := by kernel_rfl
theorem laidOut : laidOutB Tryd.prog = true := by kernel_rfl
set_option maxRecDepth 100000 in
theorem lifted (os : Os) (started : os.Started) (H : Type) (enc : TypeId × Value → H) :
    ReturnsInHanded {} Tryd.checked os 4 .any (fun w args => (Rows.breakpointClassesSpec.pre enc Tryd.prog Tryd.f4 Rows.breakpointClassesRow.domain false w args ∧ laidMetH Tryd.prog Rows.breakpointClassesRow.laid w) ∧ sizedMet enc Tryd.prog Tryd.f4 (OpenSpec.ofChange Rows.breakpointClassesSpec) false w args)
      (Rows.breakpointClassesSpec.post enc Tryd.prog Tryd.f4 false true false false) := by
  refine returnsInHanded_of_change_and (C := Tryd.checked) (X := fun w _ => laidMetH Tryd.prog Rows.breakpointClassesRow.laid w) (fun _ _ _ hh h => h.of_heap hh) own started (by kernel_rfl) Tryd.func4
    (ChangeSpec.witness_shaped (enc := enc) (C := Tryd.checked) (os := os) (X := fun w _ => laidMetH Tryd.prog Rows.breakpointClassesRow.laid w) false (World.laidAll Tryd.prog os Rows.breakpointClassesRow.laid) #[.slice none 0 0, .slice none 0 0] 8 (World.laidAll_os _ _ _)
      (World.shaped_of_ZipB (by kernel_rfl) (by kernel_rfl)) (by kernel_rfl) (by kernel_rfl) (by kernel_rfl)
      (by rw [MakeChecks.laidMetH_plain _ _ _ (by kernel_rfl)]; exact laidMet_laidAll _ (by kernel_rfl) (by kernel_rfl))) ?_
  intro W base args ds gs before hval0 hW hc _ hL _
  have hval : ∀ (j : Nat) t v, Tryd.f4.params[j]? = some t → args[j]? = some v → Value.okWide Tryd.prog W .any base t v := hval0
  have hW' := hW
  obtain ⟨p, q, hA0, hV, rfl, _, _⟩ := hW
  have hA : DataW.TrodAll enc Tryd.prog W 0 (fun _ => true) true Tryd.f4.params.toList args.toList ds p := hA0
  rw [Tryd.params4] at hA hval
  obtain ⟨v0, vs0, d0, ds0, p0, q0, hargs, rfl, rfl, h0, r0⟩ := trodAll_cons hA
  obtain ⟨v1, vs1, d1, ds1, p1, q1, rfl, rfl, rfl, h1, r1⟩ := trodAll_cons r0
  obtain ⟨rfl, rfl, rfl⟩ := trodAll_nil r1
  obtain rfl : args = #[v0, v1] := by cases args; simp_all
  obtain ⟨rfl, rfl⟩ := trodVars_none hV
  have k0 := h0
  have lt0 : ∀ x ∈ p0, x.block < W.heap.size := by obtain ⟨m, hm⟩ := k0; exact DataW.trod_lt m _ _ _ hm
  obtain ⟨x0, A0, c0, rfl, le0, C0, o0⟩ := entries_arg (hval 0 22 v0 rfl rfl) h0
  have k1 := h1
  have lt1 : ∀ x ∈ p1, x.block < W.heap.size := by obtain ⟨m, hm⟩ := k1; exact DataW.trod_lt m _ _ _ hm
  obtain ⟨x1, A1, c1, rfl, le1, C1, o1⟩ := nodes_arg (hval 1 23 v1 rfl rfl) h1
  clear hA0 hval0
  obtain ⟨k, hk⟩ := G.Pure.BreakpointClasses x0 x1 o0 o1
  refine (vinculumlaw43_BreakpointClasses.calls k A0 c0 x0 A1 c1 x1 true W C0 le0 C1 le1 hk).mono fun e W' ⟨he, bel⟩ => ?_
  subst he
  exact ⟨_, rfl, _, _, _, [], _, [], hW', trodAll_mk1 (shut_bool Tryd.underlying4 _), (trodAll_cons_mk (Below.trod laidOut (by kernel_rfl) (of_decide_eq_true (by kernel_rfl)) k0 bel lt0) (trodAll_cons_mk (Below.trod laidOut (by kernel_rfl) (of_decide_eq_true (by kernel_rfl)) k1 bel lt1) trodAll_mk0)), rfl, bel.frame _, fun h => by cases h⟩
theorem holds : Rows.BreakpointClassesSaid :=
  OpenClaim.holds_of_wide 4 Tryd.f4 rfl rfl rfl rfl rfl rfl rfl ⟨rfl, rfl, rfl, rfl, rfl⟩ rfl rfl rfl rfl rfl (by kernel_rfl) Tryd.func4 (by kernel_rfl)
    (of_decide_eq_true (by kernel_rfl)) (by unfold Func.isWrapper; first | (rw [if_pos (by decide +kernel)]; kernel_rfl) | (rw [if_neg (by decide +kernel)]; exact ⟨rfl, rfl⟩))
    (fun os started H enc _ => lifted os started H enc)
theorem card : Rows.BreakpointClassesCardSaid :=
  Claim7.holds_tied_plain_at .later [] [.data, .pinned] true (true, "c39d0df16196e9f8f3819fe85171d6b94f20910c6b42b30e9fe380aa6e06d008") false holds (fun _ h => by cases h) (by kernel_rfl) (fun _ h => by cases h) breakpointClasses_row_tie rfl ⟨rfl, rfl⟩ (by kernel_rfl) rfl
    (fun f fn hf hfn => by
      obtain rfl : f = 4 := Option.some.inj ((show Tryd.prog.funcNamed "vinculum/vinculumlaw43.BreakpointClasses" = some 4 by kernel_rfl).symm.trans hf) |>.symm
      obtain rfl : fn = Tryd.f4 := (Option.some.inj (Tryd.func4.symm.trans hfn)).symm
      exact ⟨by kernel_rfl, fun j t ht => by
        rw [Tryd.params4] at ht
        have hm : t ∈ [22, 23] := by simpa using Array.mem_of_getElem? ht
        have hall : ([22, 23].all fun u => !Tryd.prog.wantsStandIn u) = true := by kernel_rfl
        exact (show Tryd.prog.wantsStandIn t = false by simpa using List.all_eq_true.1 hall t hm)⟩)
    (by kernel_rfl)
end Go.Proofs.YtagkhoeidjlahaaDoor.breakpointClasses
namespace Go.Proofs.YtagkhoeidjlahaaDoor
theorem breakpointClasses_card : Rows.BreakpointClassesCardSaid := breakpointClasses.card
#print axioms breakpointClasses_card
end Go.Proofs.YtagkhoeidjlahaaDoor
