-- Written by pack2.py, a program of this session: this session's texts and those that the kit's printer wrote for this claim, pruned to what the claims use.
import Derived.Test.YtagkhoeidjlahaaDoorCBp2
import Derived.Test.YtagkhoeidjlahaaDoorCBp14
import Derived.Test.YtagkhoeidjlahaaDoorCBp13
import Derived.Test.YtagkhoeidjlahaaDoorCBp8
import Derived.Test.YtagkhoeidjlahaaDoorRows
import Derived.Test.YtagkhoeidjlahaaDoorTie
import Derived.Test.YtagkhoeidjlahaaDoorCards
import Derived.WalkKit
import Derived.ProofKit
import Derived.OpenShut
import Derived.ShutString
import Derived.ChangeOld
import Derived.Below
import Derived.SizedLaws
import Derived.LaidMore
import Derived.Lay
import Derived.SevenTiedAt
import Derived.Stop.Joined
namespace Go.Proofs.YtagkhoeidjlahaaDoor.G
open Go.RowKit Go.Proofs.YtagkhoeidjlahaaDoorW.PrintWords Go.Proofs.YtagkhoeidjlahaaDoorW.PrintLast Go.Proofs.YtagkhoeidjlahaaDoorW.PrintMore
attribute [local go_sem] max2_int min2_int max_two min_two max_three min_three max_four min_four
set_option linter.unusedVariables false
set_option linter.unusedSimpArgs false
def vinculumlaw43_below.l0 : Nat → List Int → Int → Int → Option (List Int)
  | 0, _, _, _ => none
  | k + 1, x0, x1, x5 => if x5 < (x0.length : Int) then (if 0 ≤ x5 then (if (rd x0 x5) ≥ x1 then (if x5 ≤ (x0.length : Int) then (some (x0.take (x5 : Int).toNat)) else (none)) else (vinculumlaw43_below.l0 k x0 x1 (wrap64 (x5 + 1)))) else (none)) else (some x0)
def vinculumlaw43_below.f (k : Nat) (l0 : List Int) (a1 : Int) : Option (List Int) := vinculumlaw43_below.l0 k l0 a1 0
set_option maxHeartbeats 8000000 in
set_option maxRecDepth 100000 in
theorem vinculumlaw43_below.calls (k : Nat) (P0_ : Nat → Prop) (u9000_ : Value) (l0 : List Int) (a1 : Int) (r : List Int) (w0 w : World) (hB : Below w0.heap.size w0 w) (ho0 : Kd.R (Kd.int .i64) 3 w w0.heap.size P0_ u9000_ l0) (h : vinculumlaw43_below.f k l0 a1 = some r) :
    Calls Tryd.prog 24 #[u9000_, .int .i64 a1] w fun e w' => ∃ v0_ : Value, e = .returned (v0_) ∧ Kd.R (Kd.int .i64) 3 w' w0.heap.size (fun k_ => (P0_ k_ ∨ w.heap.size ≤ k_)) v0_ r ∧ Below w0.heap.size w0 w' ∧ Kept w w' (fun k_ => P0_ k_) := by
  have HO0 := Aside0.mk (show Kd.R (Kd.int .i64) 3 w w0.heap.size (fun k_ => (P0_ k_ ∨ w.heap.size ≤ k_)) u9000_ l0 from Kd.R_mono ho0 (fun k_ hk => (.inl hk)))
  have HK := Aside0.mk (Kept.refl w (fun k_ => P0_ k_))
  have HW0 := Aside0.mk hB.size
  have HB := Aside0.mk hB
  clear hB
  have H : (vinculumlaw43_below.l0 k l0 a1 0) = some r := h
  clear h
  have H' := Aside0.mk H
  clear H
  go_enter Tryd.func24, Tryd.ntmps24
  go_wp2
  go_loopg [5] k (fun kq v5 w' => ∃ (x5_1 : Int), v5 = .int .i64 x5_1 ∧ Aside0 (vinculumlaw43_below.l0 kq l0 a1 x5_1 = some r) ∧ Aside0 (kq ≤ k) ∧ Aside0 (Kd.R (Kd.int .i64) 3 w' w0.heap.size (fun k_ => (P0_ k_ ∨ w.heap.size ≤ k_)) u9000_ l0) ∧ Aside0 (Kept w w' (fun k_ => P0_ k_)) ∧ Aside0 (Below w0.heap.size w0 w'))
  case atStart => exact ⟨(0), (by first | rfl | (simp; done) | (simp [*]; done)), H', ⟨Nat.le_refl _⟩, ⟨by (with_reducible repeat (first | apply Kd.R_alloc | apply Kd.R_drewN | apply Kd.R_drew)); exact HO0.out⟩, ⟨by repeat (first | (with_reducible first | exact HK.out | apply Kept.alloc | apply Kept.drewN | apply Kept.drew) | exact HK.out)⟩, ⟨by repeat (first | (with_reducible first | exact HB.out | apply below_alloc | apply pw_below_drewN | apply below_drew1) | exact HB.out)⟩⟩
  case round =>
    clear H'
    try clear c2
    try clear p2
    obtain ⟨x5_1, rfl, HA, HK1, HO_0, HK, HB⟩ := hrel
    cases gk with
    | zero => exact absurd HA.out (by simp [vinculumlaw43_below.l0])
    | succ k1 =>
      have H := HA.out
      clear HA
      simp only [vinculumlaw43_below.l0] at H
      by_cases c3 : x5_1 < (l0.length : Int)
      · rw [if_pos c3] at H
        have c3b0 : decide (x5_1 < (l0.length : Int)) = true := decide_eq_true c3
        clear c3
        by_cases c4 : 0 ≤ x5_1
        · rw [if_pos c4] at H
          have c4b0 : decide (0 ≤ x5_1) = true := decide_eq_true c4
          clear c4
          by_cases c5 : (rd l0 x5_1) ≥ a1
          · rw [if_pos c5] at H
            have c5b0 : decide (a1 ≤ (rd l0 x5_1)) = true := decide_eq_true c5
            clear c5
            by_cases c6 : x5_1 ≤ (l0.length : Int)
            · rw [if_pos c6] at H
              have c6b0 := eq_true c6
              have c6b1 : decide (x5_1 ≤ (l0.length : Int)) = true := decide_eq_true c6
              clear c6
              obtain ⟨y360, hy360⟩ : ∃ y_ : List Int, y_ = (l0.take (x5_1 : Int).toNat) := ⟨_, rfl⟩
              replace H : (some y360) = some r := by first | (rw [hy360]; with_reducible exact H) | (have H2_ := (Option.bind_some _ _).symm.trans H; rw [hy360]; with_reducible exact H2_) | (have H2_ := (Option.bind_some _ _).symm.trans H; with_reducible exact H2_) | with_reducible exact H | (rw [hy360]; exact H) | exact H
              have Ny360 := Aside0.mk hy360
              clear hy360
              obtain rfl := Option.some.inj H
              obtain ⟨Ao7, co7, eo7⟩ := Kd.R_slice HO_0.out
              subst eo7
              have p359 : 0 ≤ (x5_1 : Int) := of_decide_eq_true (by first | (with_reducible assumption) | assumption)
              have q359 : x5_1 < (l0.length : Int) := of_decide_eq_true (by first | (with_reducible assumption) | assumption)
              obtain ⟨ad359, e359, hx359_0⟩ := Kd.at_int (Kd.R_reads' HO_0.out).2.2 x5_1 p359 q359
              cases e359
              replace p359 := eq_true p359
              replace q359 := eq_true q359
              have q8 : (x5_1 : Int) ≤ ((l0.length : Int) : Int) := of_decide_eq_true (by first | (with_reducible assumption) | assumption)
              obtain ⟨i08, hi08, _, hsz8, _⟩ := info_parts info3
              have hcut8 := cut_to (P := Tryd.prog) 26 3 .i64 Tryd.underlying26 hi08 (some ad359) l0.length co7 x5_1 (of_decide_eq_true (by first | (with_reducible assumption) | assumption)) q8 (Kd.R_reads' HO_0.out).2.1
              have hr8 := Kd.R_take (m := (x5_1 : Int).toNat) HO_0.out (by omega)
              have hy8 : y360.length = (x5_1 : Int).toNat := (by rw [Ny360.out, List.length_take]; omega)
              rw [← Ny360.out] at hr8
              rw [← hy8] at hr8 hcut8
              clear hy8 hi08 hsz8 HO_0
              have HO362 := Aside0.mk hr8
              clear hr8
              replace q8 := eq_true q8
              go_wp2
              go_ret
              exact ⟨_, by first | rfl | (simp [errW_none, errW_some] <;> rfl) | (simp [*, errW_none, errW_some] <;> rfl), by (with_reducible repeat (first | apply Kd.R_alloc | apply Kd.R_drewN | apply Kd.R_drew)); exact HO362.out, by repeat (first | (with_reducible first | exact HB.out | apply below_alloc | apply pw_below_drewN | apply below_drew1) | exact HB.out), by repeat (first | (with_reducible first | exact HK.out | apply Kept.alloc | apply Kept.drewN | apply Kept.drew) | exact HK.out)⟩
            · rw [if_neg c6] at H
              exact absurd H (by simp)
          · rw [if_neg c5] at H
            have c5b0 : decide (a1 ≤ (rd l0 x5_1)) = false := decide_eq_false c5
            clear c5
            have H' := Aside0.mk H
            clear H
            obtain ⟨Ao9, co9, eo9⟩ := Kd.R_slice HO_0.out
            subst eo9
            have p359 : 0 ≤ (x5_1 : Int) := of_decide_eq_true (by first | (with_reducible assumption) | assumption)
            have q359 : x5_1 < (l0.length : Int) := of_decide_eq_true (by first | (with_reducible assumption) | assumption)
            obtain ⟨ad359, e359, hx359_0⟩ := Kd.at_int (Kd.R_reads' HO_0.out).2.2 x5_1 p359 q359
            cases e359
            replace p359 := eq_true p359
            replace q359 := eq_true q359
            go_wp2
            go_roundg k1
            case measure => have := HK1.out; omega
            case rel => exact ⟨(wrap64 (x5_1 + 1)), (by first | rfl | (simp; done) | (simp [*]; done)), H', ⟨by have := HK1.out; omega⟩, ⟨by (with_reducible repeat (first | apply Kd.R_alloc | apply Kd.R_drewN | apply Kd.R_drew)); exact HO_0.out⟩, ⟨by repeat (first | (with_reducible first | exact HK.out | apply Kept.alloc | apply Kept.drewN | apply Kept.drew) | exact HK.out)⟩, ⟨by repeat (first | (with_reducible first | exact HB.out | apply below_alloc | apply pw_below_drewN | apply below_drew1) | exact HB.out)⟩⟩
        · rw [if_neg c4] at H
          exact absurd H (by simp)
      · rw [if_neg c3] at H
        have c3b0 : decide (x5_1 < (l0.length : Int)) = false := decide_eq_false c3
        clear c3
        obtain rfl := Option.some.inj H
        obtain ⟨Ao10, co10, eo10⟩ := Kd.R_slice HO_0.out
        subst eo10
        go_wp2
        go_ret
        exact ⟨_, by first | rfl | (simp [errW_none, errW_some] <;> rfl) | (simp [*, errW_none, errW_some] <;> rfl), by (with_reducible repeat (first | apply Kd.R_alloc | apply Kd.R_drewN | apply Kd.R_drew)); exact HO_0.out, by repeat (first | (with_reducible first | exact HB.out | apply below_alloc | apply pw_below_drewN | apply below_drew1) | exact HB.out), by repeat (first | (with_reducible first | exact HK.out | apply Kept.alloc | apply Kept.drewN | apply Kept.drew) | exact HK.out)⟩
end Go.Proofs.YtagkhoeidjlahaaDoor.G
namespace Go.Proofs.YtagkhoeidjlahaaDoor.G
open Go.RowKit Go.Proofs.YtagkhoeidjlahaaDoorW.PrintWords Go.Proofs.YtagkhoeidjlahaaDoorW.PrintLast Go.Proofs.YtagkhoeidjlahaaDoorW.PrintMore
attribute [local go_sem] max2_int min2_int max_two min_two max_three min_three max_four min_four
set_option linter.unusedVariables false
set_option linter.unusedSimpArgs false
mutual
def vinculumlaw43_BreakpointBegins.j0 : Nat → List (S68) → List (S36) → Int → Bool → Option (Bool)
  | 0, _, _, _, _ => none
  | k + 1, x0, x1, x2, x31 => if x31 = true then (some true) else (if (x1.length : Int) = 0 then (none) else ((breakpoint_Places.f k x0 x1).bind fun bt366 => (if 0 ≤ (wrap64 (1 + (Int.tmod (wrap64 (x2)) (x1.length : Int)))) then (if (wrap64 (1 + (Int.tmod (wrap64 (x2)) (x1.length : Int)))) ≤ (x1.length : Int) then ((breakpoint_Places.f k x0 (x1.take ((wrap64 (1 + (Int.tmod (wrap64 (x2)) (x1.length : Int)))) : Int).toNat)).bind fun bt374 => (if bt366.2 = bt374.2 then (vinculumlaw43_BreakpointBegins.j1 k (wrap64 (1 + (Int.tmod (wrap64 (x2)) (x1.length : Int)))) bt366.1 bt366.2 bt374.1 bt374.2 (bt366.2 != 0)) else (vinculumlaw43_BreakpointBegins.j1 k (wrap64 (1 + (Int.tmod (wrap64 (x2)) (x1.length : Int)))) bt366.1 bt366.2 bt374.1 bt374.2 true))) else (none)) else (none))))
def vinculumlaw43_BreakpointBegins.j1 : Nat → Int → List Int → Int → List Int → Int → Bool → Option (Bool)
  | 0, _, _, _, _, _, _ => none
  | k + 1, x7, x8, x9, x10, x11, x58 => if x58 = true then (some (x9 == x11)) else ((vinculumlaw43_below.f k x8 (wrap64 (x7 - 1))).bind fun t378 => ((vinculumlaw43_below.f k x10 (wrap64 (x7 - 1))).bind fun t381 => ((vinculumlaw43_same.f k t378 t381).bind fun t384 => (some t384))))
end
def vinculumlaw43_BreakpointBegins.f (k : Nat) (l0 : List (S68)) (l1 : List (S36)) (a2 : Int) : Option (Bool) := (vinculumlaw43_awake.f k).bind fun t363 => (if t363 = true then (if (l0.length : Int) > 300 then (vinculumlaw43_BreakpointBegins.j0 k l0 l1 a2 true) else ((vinculumref26_Few.f k l1 300).bind fun t364 => (if t364 = true then ((vinculumref09_ValidItems.f k l1).bind fun t365 => (if t365 = true then (vinculumlaw43_BreakpointBegins.j0 k l0 l1 a2 ((l1.length : Int) == 0)) else (vinculumlaw43_BreakpointBegins.j0 k l0 l1 a2 true))) else (vinculumlaw43_BreakpointBegins.j0 k l0 l1 a2 true)))) else (some false))
set_option maxHeartbeats 8000000 in
set_option maxRecDepth 100000 in
theorem vinculumlaw43_BreakpointBegins.calls (k : Nat) (A0 : Option Addr) (c0 : Nat) (l0 : List (S68)) (A1 : Option Addr) (c1 : Nat) (l1 : List (S36)) (a2 : Int) (r : Bool) (w : World) (hr0 : Kd.C k68 w A0 l0.length l0) (hc0 : l0.length ≤ c0) (hr1 : Kd.C k36 w A1 l1.length l1) (hc1 : l1.length ≤ c1) (h : vinculumlaw43_BreakpointBegins.f k l0 l1 a2 = some r) :
    Calls Tryd.prog 5 #[.slice A0 l0.length c0, .slice A1 l1.length c1, .int .u8 a2] w fun e w' => e = .returned (.bool r) ∧ Below w.heap.size w w' := by
  have HR0 := Aside0.mk hr0
  have HC0 := Aside0.mk hc0
  clear hr0 hc0
  have HR1 := Aside0.mk hr1
  have HC1 := Aside0.mk hc1
  clear hr1 hc1
  have HB := Aside0.mk (Below.refl w.heap.size w)
  have H : ((vinculumlaw43_awake.f k).bind fun t363 => (if t363 = true then (if (l0.length : Int) > 300 then (vinculumlaw43_BreakpointBegins.j0 k l0 l1 a2 true) else ((vinculumref26_Few.f k l1 300).bind fun t364 => (if t364 = true then ((vinculumref09_ValidItems.f k l1).bind fun t365 => (if t365 = true then (vinculumlaw43_BreakpointBegins.j0 k l0 l1 a2 ((l1.length : Int) == 0)) else (vinculumlaw43_BreakpointBegins.j0 k l0 l1 a2 true))) else (vinculumlaw43_BreakpointBegins.j0 k l0 l1 a2 true)))) else (some false))) = some r := h
  clear h
  replace H := Option.bind_eq_some_iff.mp H
  obtain ⟨t363, A40, H⟩ := H
  replace H : (if t363 = true then (if (l0.length : Int) > 300 then (vinculumlaw43_BreakpointBegins.j0 k l0 l1 a2 true) else ((vinculumref26_Few.f k l1 300).bind fun t364 => (if t364 = true then ((vinculumref09_ValidItems.f k l1).bind fun t365 => (if t365 = true then (vinculumlaw43_BreakpointBegins.j0 k l0 l1 a2 ((l1.length : Int) == 0)) else (vinculumlaw43_BreakpointBegins.j0 k l0 l1 a2 true))) else (vinculumlaw43_BreakpointBegins.j0 k l0 l1 a2 true)))) else (some false)) = some r := H
  have A4 := Aside0.mk A40
  clear A40
  by_cases c5 : t363 = true
  · subst c5
    have H1 : (if (l0.length : Int) > 300 then (vinculumlaw43_BreakpointBegins.j0 k l0 l1 a2 true) else ((vinculumref26_Few.f k l1 300).bind fun t364 => (if t364 = true then ((vinculumref09_ValidItems.f k l1).bind fun t365 => (if t365 = true then (vinculumlaw43_BreakpointBegins.j0 k l0 l1 a2 ((l1.length : Int) == 0)) else (vinculumlaw43_BreakpointBegins.j0 k l0 l1 a2 true))) else (vinculumlaw43_BreakpointBegins.j0 k l0 l1 a2 true)))) = some r := by rw [if_pos rfl] at H; exact H
    clear H
    have H := H1
    clear H1
    have HC6 := Aside0.mk H
    clear H
    go_enter Tryd.func5, Tryd.ntmps5
    go_upto_region 3 with (first | ((with_reducible refine gate_callee (f := 17) rfl ?_); refine goesL_ (some 12) rfl rfl Tryd.func17 (by kernel_rfl) rfl #[] rfl (by (try simp only [List.map_toArray, List.map_cons, List.map_nil]); first | done | rfl | (simp only [List.length_drop, List.length_take]; rfl)) ?_; (with_reducible refine (vinculumlaw43_awake.calls k  true _ A4.out).mono ?_); rintro e w7 ⟨rfl, hb⟩; refine ⟨_, rfl, ?_⟩; have n0_ := Aside0.mk (below_step (by repeat (first | (with_reducible first | exact HB.out | apply below_alloc | apply pw_below_drewN | apply below_drew1) | exact HB.out)) hb); clear HB; have HB := n0_; clear n0_; (try clear hb); (try clear hb2); (try clear hk); (try clear hi)))
    (try simp only [Act.put, List.setIfInBounds_toArray, List.set_cons_zero, List.set_cons_succ])
    go_cut [31] (fun v31 wc => ∃ (kq : Nat) (x31_5 : Bool), v31 = .bool x31_5 ∧ Aside0 (vinculumlaw43_BreakpointBegins.j0 kq l0 l1 a2 x31_5 = some r) ∧ Aside0 (kq ≤ k) ∧ Aside0 (Below w.heap.size w wc))
    case first =>
      have H := HC6.out
      clear HC6
      by_cases c8 : (l0.length : Int) > 300
      · rw [if_pos c8] at H
        have c8b0 : decide (300 < (l0.length : Int)) = true := decide_eq_true c8
        have c8b1 : decide (300 < l0.length) = true := decide_eq_true (by omega)
        clear c8
        (first | rw [c8b0] | (simp only [i64_w, i32_w]; rw [c8b0]) | skip)
        have H' := Aside0.mk H
        clear H
        go_wp2
        go_meet
        case rel => exact ⟨_, (true), (by first | rfl | (simp; done) | (simp [*]; done)), H', ⟨by first | omega | exact Nat.le_refl _⟩, ⟨by repeat (first | (with_reducible first | exact HB.out | apply below_alloc | apply pw_below_drewN | apply below_drew1) | exact HB.out)⟩⟩
      · rw [if_neg c8] at H
        have c8b0 : decide (300 < (l0.length : Int)) = false := decide_eq_false c8
        have c8b1 : decide (300 < l0.length) = false := decide_eq_false (by omega)
        clear c8
        (first | rw [c8b0] | (simp only [i64_w, i32_w]; rw [c8b0]) | skip)
        replace H := Option.bind_eq_some_iff.mp H
        obtain ⟨t364, A90, H⟩ := H
        replace H : (if t364 = true then ((vinculumref09_ValidItems.f k l1).bind fun t365 => (if t365 = true then (vinculumlaw43_BreakpointBegins.j0 k l0 l1 a2 ((l1.length : Int) == 0)) else (vinculumlaw43_BreakpointBegins.j0 k l0 l1 a2 true))) else (vinculumlaw43_BreakpointBegins.j0 k l0 l1 a2 true)) = some r := H
        have A9 := Aside0.mk A90
        clear A90
        by_cases c10 : t364 = true
        · subst c10
          have H1 : ((vinculumref09_ValidItems.f k l1).bind fun t365 => (if t365 = true then (vinculumlaw43_BreakpointBegins.j0 k l0 l1 a2 ((l1.length : Int) == 0)) else (vinculumlaw43_BreakpointBegins.j0 k l0 l1 a2 true))) = some r := by rw [if_pos rfl] at H; exact H
          clear H
          have H := H1
          clear H1
          replace H := Option.bind_eq_some_iff.mp H
          obtain ⟨t365, A110, H⟩ := H
          replace H : (if t365 = true then (vinculumlaw43_BreakpointBegins.j0 k l0 l1 a2 ((l1.length : Int) == 0)) else (vinculumlaw43_BreakpointBegins.j0 k l0 l1 a2 true)) = some r := H
          have A11 := Aside0.mk A110
          clear A110
          by_cases c12 : t365 = true
          · subst c12
            have H1 : (vinculumlaw43_BreakpointBegins.j0 k l0 l1 a2 ((l1.length : Int) == 0)) = some r := by rw [if_pos rfl] at H; exact H
            clear H
            have H := H1
            clear H1
            have H' := Aside0.mk H
            clear H
            go_wp2_with (first | (go_at_call 18; (with_reducible refine (vinculumref26_Few.calls k _ _ l1 300 true _ ?side1 ?side2 A9.out).mono ?_); (case side1 => repeat (first | exact (Kd.C_below HR1.out HB.out) | (with_reducible refine Kd.C_alloc ?_ _) | (with_reducible refine Kd.C_drewN ?_ _) | (with_reducible refine Kd.C_drew ?_))); (case side2 => exact HC1.out); rintro e w13 ⟨rfl, hb⟩; have n0_ := Aside0.mk (below_step (by repeat (first | (with_reducible first | exact HB.out | apply below_alloc | apply pw_below_drewN | apply below_drew1) | exact HB.out)) hb); clear HB; have HB := n0_; clear n0_; (try clear hb); (try clear hb2); (try clear hk); (try clear hi)) | (go_at_call 23; (with_reducible refine (vinculumref09_ValidItems.calls k _ _ l1 true _ ?side1 ?side2 A11.out).mono ?_); (case side1 => repeat (first | exact (Kd.C_below HR1.out HB.out) | (with_reducible refine Kd.C_alloc ?_ _) | (with_reducible refine Kd.C_drewN ?_ _) | (with_reducible refine Kd.C_drew ?_))); (case side2 => exact HC1.out); rintro e w14 ⟨rfl, hb⟩; have n0_ := Aside0.mk (below_step (by repeat (first | (with_reducible first | exact HB.out | apply below_alloc | apply pw_below_drewN | apply below_drew1) | exact HB.out)) hb); clear HB; have HB := n0_; clear n0_; (try clear hb); (try clear hb2); (try clear hk); (try clear hi)))
            go_meet
            case rel => exact ⟨_, (((l1.length : Int) == 0)), (by first | rfl | (simp; done) | (simp [*]; done)), H', ⟨by first | omega | exact Nat.le_refl _⟩, ⟨by repeat (first | (with_reducible first | exact HB.out | apply below_alloc | apply pw_below_drewN | apply below_drew1) | exact HB.out)⟩⟩
          · replace c12 := Bool.eq_false_iff.mpr c12
            subst c12
            have H1 : (vinculumlaw43_BreakpointBegins.j0 k l0 l1 a2 true) = some r := by rw [if_neg (show ¬ (false = true) by decide)] at H; exact H
            clear H
            have H := H1
            clear H1
            have H' := Aside0.mk H
            clear H
            go_wp2_with (first | (go_at_call 18; (with_reducible refine (vinculumref26_Few.calls k _ _ l1 300 true _ ?side1 ?side2 A9.out).mono ?_); (case side1 => repeat (first | exact (Kd.C_below HR1.out HB.out) | (with_reducible refine Kd.C_alloc ?_ _) | (with_reducible refine Kd.C_drewN ?_ _) | (with_reducible refine Kd.C_drew ?_))); (case side2 => exact HC1.out); rintro e w15 ⟨rfl, hb⟩; have n0_ := Aside0.mk (below_step (by repeat (first | (with_reducible first | exact HB.out | apply below_alloc | apply pw_below_drewN | apply below_drew1) | exact HB.out)) hb); clear HB; have HB := n0_; clear n0_; (try clear hb); (try clear hb2); (try clear hk); (try clear hi)) | (go_at_call 23; (with_reducible refine (vinculumref09_ValidItems.calls k _ _ l1 false _ ?side1 ?side2 A11.out).mono ?_); (case side1 => repeat (first | exact (Kd.C_below HR1.out HB.out) | (with_reducible refine Kd.C_alloc ?_ _) | (with_reducible refine Kd.C_drewN ?_ _) | (with_reducible refine Kd.C_drew ?_))); (case side2 => exact HC1.out); rintro e w16 ⟨rfl, hb⟩; have n0_ := Aside0.mk (below_step (by repeat (first | (with_reducible first | exact HB.out | apply below_alloc | apply pw_below_drewN | apply below_drew1) | exact HB.out)) hb); clear HB; have HB := n0_; clear n0_; (try clear hb); (try clear hb2); (try clear hk); (try clear hi)))
            go_meet
            case rel => exact ⟨_, (true), (by first | rfl | (simp; done) | (simp [*]; done)), H', ⟨by first | omega | exact Nat.le_refl _⟩, ⟨by repeat (first | (with_reducible first | exact HB.out | apply below_alloc | apply pw_below_drewN | apply below_drew1) | exact HB.out)⟩⟩
        · replace c10 := Bool.eq_false_iff.mpr c10
          subst c10
          have H1 : (vinculumlaw43_BreakpointBegins.j0 k l0 l1 a2 true) = some r := by rw [if_neg (show ¬ (false = true) by decide)] at H; exact H
          clear H
          have H := H1
          clear H1
          have H' := Aside0.mk H
          clear H
          go_wp2_with (first | (go_at_call 18; (with_reducible refine (vinculumref26_Few.calls k _ _ l1 300 false _ ?side1 ?side2 A9.out).mono ?_); (case side1 => repeat (first | exact (Kd.C_below HR1.out HB.out) | (with_reducible refine Kd.C_alloc ?_ _) | (with_reducible refine Kd.C_drewN ?_ _) | (with_reducible refine Kd.C_drew ?_))); (case side2 => exact HC1.out); rintro e w17 ⟨rfl, hb⟩; have n0_ := Aside0.mk (below_step (by repeat (first | (with_reducible first | exact HB.out | apply below_alloc | apply pw_below_drewN | apply below_drew1) | exact HB.out)) hb); clear HB; have HB := n0_; clear n0_; (try clear hb); (try clear hb2); (try clear hk); (try clear hi)))
          go_meet
          case rel => exact ⟨_, (true), (by first | rfl | (simp; done) | (simp [*]; done)), H', ⟨by first | omega | exact Nat.le_refl _⟩, ⟨by repeat (first | (with_reducible first | exact HB.out | apply below_alloc | apply pw_below_drewN | apply below_drew1) | exact HB.out)⟩⟩
    case rest =>
      clear HC6
      try clear c1
      try clear p2
      try clear c5
      try clear c8
      try clear c8b0
      try clear c8b1
      try clear c10
      try clear c12
      try clear c17
      obtain ⟨kq, x31_5, rfl, HA, HJ5, HB⟩ := hcut
      cases kq with
      | zero => exact absurd HA.out (by simp [vinculumlaw43_BreakpointBegins.j0])
      | succ kj5 =>
        have H := HA.out
        clear HA
        simp only [vinculumlaw43_BreakpointBegins.j0] at H
        by_cases c18 : x31_5 = true
        · subst c18
          have H1 : (some true) = some r := by rw [if_pos rfl] at H; exact H
          clear H
          have H := H1
          clear H1
          obtain rfl := Option.some.inj H
          go_wp2
          go_ret
          exact ⟨by first | rfl | (simp [errW_none, errW_some] <;> rfl) | (simp [*, errW_none, errW_some] <;> rfl), by repeat (first | (with_reducible first | exact HB.out | apply below_alloc | apply pw_below_drewN | apply below_drew1) | exact HB.out)⟩
        · replace c18 := Bool.eq_false_iff.mpr c18
          subst c18
          have H1 : (if (l1.length : Int) = 0 then (none) else ((breakpoint_Places.f kj5 l0 l1).bind fun bt366 => (if 0 ≤ (wrap64 (1 + (Int.tmod (wrap64 (a2)) (l1.length : Int)))) then (if (wrap64 (1 + (Int.tmod (wrap64 (a2)) (l1.length : Int)))) ≤ (l1.length : Int) then ((breakpoint_Places.f kj5 l0 (l1.take ((wrap64 (1 + (Int.tmod (wrap64 (a2)) (l1.length : Int)))) : Int).toNat)).bind fun bt374 => (if bt366.2 = bt374.2 then (vinculumlaw43_BreakpointBegins.j1 kj5 (wrap64 (1 + (Int.tmod (wrap64 (a2)) (l1.length : Int)))) bt366.1 bt366.2 bt374.1 bt374.2 (bt366.2 != 0)) else (vinculumlaw43_BreakpointBegins.j1 kj5 (wrap64 (1 + (Int.tmod (wrap64 (a2)) (l1.length : Int)))) bt366.1 bt366.2 bt374.1 bt374.2 true))) else (none)) else (none)))) = some r := by rw [if_neg (show ¬ (false = true) by decide)] at H; exact H
          clear H
          have H := H1
          clear H1
          by_cases c19 : (l1.length : Int) = 0
          · rw [if_pos c19] at H
            exact absurd H (by simp)
          · rw [if_neg c19] at H
            have c19b0 : ((l1.length : Int) == 0) = false := beq_eq_false_iff_ne.mpr c19
            have c19b1 : ((l1.length : Int) != 0) = true := bne_iff_ne.mpr c19
            have c19b2 : ¬ (l1 = []) := fun h_ => c19 (by rw [h_]; rfl)
            replace H := Option.bind_eq_some_iff.mp H
            obtain ⟨⟨t366, t367⟩, A200, H⟩ := H
            replace H : (if 0 ≤ (wrap64 (1 + (Int.tmod (wrap64 (a2)) (l1.length : Int)))) then (if (wrap64 (1 + (Int.tmod (wrap64 (a2)) (l1.length : Int)))) ≤ (l1.length : Int) then ((breakpoint_Places.f kj5 l0 (l1.take ((wrap64 (1 + (Int.tmod (wrap64 (a2)) (l1.length : Int)))) : Int).toNat)).bind fun bt374 => (if t367 = bt374.2 then (vinculumlaw43_BreakpointBegins.j1 kj5 (wrap64 (1 + (Int.tmod (wrap64 (a2)) (l1.length : Int)))) t366 t367 bt374.1 bt374.2 (t367 != 0)) else (vinculumlaw43_BreakpointBegins.j1 kj5 (wrap64 (1 + (Int.tmod (wrap64 (a2)) (l1.length : Int)))) t366 t367 bt374.1 bt374.2 true))) else (none)) else (none)) = some r := H
            have A20 := Aside0.mk A200
            clear A200
            obtain ⟨ji21, hji21⟩ : ∃ j_ : Int, (wrap64 (1 + (Int.tmod (wrap64 (a2)) (l1.length : Int)))) = j_ := ⟨_, rfl⟩
            replace H : (if 0 ≤ (ji21) then (if (ji21) ≤ (l1.length : Int) then ((breakpoint_Places.f kj5 l0 (l1.take ((ji21) : Int).toNat)).bind fun bt374 => (if t367 = bt374.2 then (vinculumlaw43_BreakpointBegins.j1 kj5 ji21 t366 t367 bt374.1 bt374.2 (t367 != 0)) else (vinculumlaw43_BreakpointBegins.j1 kj5 ji21 t366 t367 bt374.1 bt374.2 true))) else (none)) else (none)) = some r := by first | (rw [hji21] at H; exact H) | (simp only [hji21] at H ⊢; exact H)
            (try rw [hji21] at A20)
            have hji21w : (IntKind.i64.wrap (1 + (Int.tmod (wrap64 (a2)) (l1.length : Int)))) = ji21 := (i64_w _).trans hji21
            by_cases c22 : 0 ≤ (ji21)
            · rw [if_pos c22] at H
              have c22b0 := eq_true c22
              have c22b1 : decide (0 ≤ (ji21)) = true := decide_eq_true c22
              clear c22
              by_cases c23 : (ji21) ≤ (l1.length : Int)
              · rw [if_pos c23] at H
                have c23b0 := eq_true c23
                have c23b1 : decide ((ji21) ≤ (l1.length : Int)) = true := decide_eq_true c23
                clear c23
                obtain ⟨y370, hy370⟩ : ∃ y_ : List (S36), y_ = (l1.take ((ji21) : Int).toNat) := ⟨_, rfl⟩
                replace H : ((breakpoint_Places.f kj5 l0 y370).bind fun bt374 => (if t367 = bt374.2 then (vinculumlaw43_BreakpointBegins.j1 kj5 ji21 t366 t367 bt374.1 bt374.2 (t367 != 0)) else (vinculumlaw43_BreakpointBegins.j1 kj5 ji21 t366 t367 bt374.1 bt374.2 true))) = some r := by first | (rw [hy370]; with_reducible exact H) | (have H2_ := (Option.bind_some _ _).symm.trans H; rw [hy370]; with_reducible exact H2_) | (have H2_ := (Option.bind_some _ _).symm.trans H; with_reducible exact H2_) | with_reducible exact H | (rw [hy370]; exact H) | exact H
                have Ny370 := Aside0.mk hy370
                clear hy370
                replace H := Option.bind_eq_some_iff.mp H
                obtain ⟨⟨t374, t375⟩, A240, H⟩ := H
                replace H : (if t367 = t375 then (vinculumlaw43_BreakpointBegins.j1 kj5 ji21 t366 t367 t374 t375 (t367 != 0)) else (vinculumlaw43_BreakpointBegins.j1 kj5 ji21 t366 t367 t374 t375 true)) = some r := H
                have A24 := Aside0.mk A240
                clear A240
                have HC25 := Aside0.mk H
                clear H
                go_upto_region 8 with (first | ((with_reducible refine gate_callee (f := 19) rfl ?_); refine goesL_ (some 41) rfl rfl Tryd.func19 (by kernel_rfl) rfl #[.slice A0 l0.length c0, .slice A1 l1.length c1] rfl (by (try simp only [List.map_toArray, List.map_cons, List.map_nil]); first | done | rfl | (simp only [List.length_drop, List.length_take]; rfl)) ?_; (with_reducible refine (breakpoint_Places.calls kj5 _ _ l0 _ _ l1 t366 t367 _ ?side1 ?side2 ?side3 ?side4 A20.out).mono ?_); (case side1 => repeat (first | exact (Kd.C_below HR0.out HB.out) | (with_reducible refine Kd.C_alloc ?_ _) | (with_reducible refine Kd.C_drewN ?_ _) | (with_reducible refine Kd.C_drew ?_))); (case side2 => exact HC0.out); (case side3 => repeat (first | exact (Kd.C_below HR1.out HB.out) | (with_reducible refine Kd.C_alloc ?_ _) | (with_reducible refine Kd.C_drewN ?_ _) | (with_reducible refine Kd.C_drew ?_))); (case side4 => exact HC1.out); rintro e w26 ⟨v368, rfl, ho0, hb⟩; refine ⟨_, rfl, ?_⟩; have n0_ := Aside0.mk (Kd.R_lower ho0 (below_size (by repeat (first | (with_reducible first | exact HB.out | apply below_alloc | apply pw_below_drewN | apply below_drew1) | exact HB.out)))); have n1_ := Aside0.mk (below_step (by repeat (first | (with_reducible first | exact HB.out | apply below_alloc | apply pw_below_drewN | apply below_drew1) | exact HB.out)) hb); clear HB; have HO369 := n0_; have HB := n1_; clear n0_ n1_; (try clear hb); (try clear hb2); (try clear hk); (try clear hi); (try clear ho0); have q27 : ((ji21) : Int) ≤ ((l1.length : Int) : Int) := of_decide_eq_true (by first | (with_reducible assumption) | assumption); obtain ⟨i027, hi027, _, hsz27, _⟩ := info_parts info36; have hroom27 : l1.length ≤ c1 := HC1.out; have hC27 : Kd.C k36 _ A1 l1.length l1 := HR1.out; have hcut27 := cut_to (P := Tryd.prog) 23 36 .i64 Tryd.underlying23 hi027 A1 l1.length c1 (ji21) (of_decide_eq_true (by first | (with_reducible assumption) | assumption)) q27 hroom27; have hr27 := Kd.C_take (m := ((ji21) : Int).toNat) hC27 (by omega); have hy27 : y370.length = ((ji21) : Int).toNat := (by rw [Ny370.out, List.length_take]; omega); rw [← Ny370.out] at hr27; rw [← hy27] at hcut27; have HR373 := Aside0.mk hr27; have HC373 := Aside0.mk (show y370.length ≤ c1 from by omega); clear hr27 hC27 hroom27 hi027 hsz27; have KY27 := Aside0.mk hy27; clear hy27; replace q27 := eq_true q27) | ((with_reducible refine gate_callee (f := 19) rfl ?_); refine goesL_ (some 49) rfl rfl Tryd.func19 (by kernel_rfl) rfl #[.slice A0 l0.length c0, .slice A1 y370.length c1] rfl (by (try simp only [List.map_toArray, List.map_cons, List.map_nil]); first | done | rfl | (simp only [List.length_drop, List.length_take]; rfl)) ?_; (with_reducible refine (breakpoint_Places.calls kj5 _ _ l0 _ _ y370 t374 t375 _ ?side1 ?side2 ?side3 ?side4 A24.out).mono ?_); (case side1 => repeat (first | exact (Kd.C_below HR0.out HB.out) | (with_reducible refine Kd.C_alloc ?_ _) | (with_reducible refine Kd.C_drewN ?_ _) | (with_reducible refine Kd.C_drew ?_))); (case side2 => exact HC0.out); (case side3 => repeat (first | exact (Kd.C_below HR373.out HB.out) | (with_reducible refine Kd.C_alloc ?_ _) | (with_reducible refine Kd.C_drewN ?_ _) | (with_reducible refine Kd.C_drew ?_))); (case side4 => exact HC373.out); rintro e w28 ⟨v376, rfl, ho0, hb⟩; refine ⟨_, rfl, ?_⟩; have n0_ := Aside0.mk (Kd.R_elder' (by (with_reducible repeat (first | apply Kd.R_alloc | apply Kd.R_drewN | apply Kd.R_drew)); exact HO369.out) (Kd.R_base ho0) hb); have n1_ := Aside0.mk (Kd.R_lower (Kd.R_new' ho0 (Kd.R_lt (by (with_reducible repeat (first | apply Kd.R_alloc | apply Kd.R_drewN | apply Kd.R_drew)); exact HO369.out))) (below_size (by repeat (first | (with_reducible first | exact HB.out | apply below_alloc | apply pw_below_drewN | apply below_drew1) | exact HB.out)))); have n2_ := Aside0.mk (below_step (by repeat (first | (with_reducible first | exact HB.out | apply below_alloc | apply pw_below_drewN | apply below_drew1) | exact HB.out)) hb); clear HO369; clear HB; have HO369 := n0_; have HO377 := n1_; have HB := n2_; clear n0_ n1_ n2_; (try clear hb); (try clear hb2); (try clear hk); (try clear hi); (try clear ho0)))
                (try simp only [Act.put, List.setIfInBounds_toArray, List.set_cons_zero, List.set_cons_succ])
                go_cut [58] (fun v58 wc => ∃ (kq : Nat) (x58_24 : Bool), v58 = .bool x58_24 ∧ Aside0 (vinculumlaw43_BreakpointBegins.j1 kq ji21 t366 t367 t374 t375 x58_24 = some r) ∧ Aside0 (kq ≤ kj5) ∧ Aside0 (Kd.R (Kd.int .i64) 3 wc w.heap.size (fun k_ => some k_ ≠ (v376 : Value).ownBlock) v368 t366) ∧ Aside0 (Kd.R (Kd.int .i64) 3 wc w.heap.size (fun k_ => some k_ ≠ (v368 : Value).ownBlock) v376 t374) ∧ Aside0 (Below w.heap.size w wc))
                case first =>
                  have H := HC25.out
                  clear HC25
                  by_cases c29 : t367 = t375
                  · rw [if_pos c29] at H
                    have c29b0 : (t367 == t375) = true := beq_iff_eq.mpr c29
                    have c29b1 : (t367 != t375) = false := bne_eq_false_iff_eq.mpr c29
                    clear c29
                    (first | rw [c29b0] | (simp only [i64_w, i32_w]; rw [c29b0]) | skip)
                    have H' := Aside0.mk H
                    clear H
                    go_wp2
                    go_meet
                    case rel => exact ⟨_, ((t367 != 0)), (by first | rfl | (simp; done) | (simp [*]; done)), H', ⟨by have := HJ5.out; first | omega | exact Nat.le_refl _⟩, ⟨by (with_reducible repeat (first | apply Kd.R_alloc | apply Kd.R_drewN | apply Kd.R_drew)); exact Kd.R_mono HO369.out (fun _ hk => hk.2)⟩, ⟨by (with_reducible repeat (first | apply Kd.R_alloc | apply Kd.R_drewN | apply Kd.R_drew)); exact Kd.R_mono HO377.out (fun _ hk => hk.2)⟩, ⟨by repeat (first | (with_reducible first | exact HB.out | apply below_alloc | apply pw_below_drewN | apply below_drew1) | exact HB.out)⟩⟩
                  · rw [if_neg c29] at H
                    have c29b0 : (t367 == t375) = false := beq_eq_false_iff_ne.mpr c29
                    have c29b1 : (t367 != t375) = true := bne_iff_ne.mpr c29
                    (first | rw [c29b0] | (simp only [i64_w, i32_w]; rw [c29b0]) | skip)
                    have H' := Aside0.mk H
                    clear H
                    go_wp2
                    go_meet
                    case rel => exact ⟨_, (true), (by first | rfl | (simp; done) | (simp [*]; done)), H', ⟨by have := HJ5.out; first | omega | exact Nat.le_refl _⟩, ⟨by (with_reducible repeat (first | apply Kd.R_alloc | apply Kd.R_drewN | apply Kd.R_drew)); exact Kd.R_mono HO369.out (fun _ hk => hk.2)⟩, ⟨by (with_reducible repeat (first | apply Kd.R_alloc | apply Kd.R_drewN | apply Kd.R_drew)); exact Kd.R_mono HO377.out (fun _ hk => hk.2)⟩, ⟨by repeat (first | (with_reducible first | exact HB.out | apply below_alloc | apply pw_below_drewN | apply below_drew1) | exact HB.out)⟩⟩
                case rest =>
                  clear HC25
                  try clear c1
                  try clear c2
                  try clear p2
                  try clear q2
                  try clear c5
                  try clear p6
                  try clear c8
                  try clear c8b0
                  try clear c8b1
                  try clear c10
                  try clear c12
                  try clear c17
                  try clear c18
                  try clear c19
                  try clear c19b0
                  try clear c19b1
                  try clear c19b2
                  try clear c22
                  try clear c22b0
                  try clear c22b1
                  try clear c23
                  try clear c23b0
                  try clear c23b1
                  try clear q27
                  try clear c29
                  try clear c29b0
                  try clear c29b1
                  try clear p2
                  try clear q27
                  obtain ⟨kq, x58_24, rfl, HA, HJ24, HO_8, HO_10, HB⟩ := hcut
                  cases kq with
                  | zero => exact absurd HA.out (by simp [vinculumlaw43_BreakpointBegins.j1])
                  | succ kj24 =>
                    have H := HA.out
                    clear HA
                    simp only [vinculumlaw43_BreakpointBegins.j1] at H
                    by_cases c30 : x58_24 = true
                    · subst c30
                      have H1 : (some (t367 == t375)) = some r := by rw [if_pos rfl] at H; exact H
                      clear H
                      have H := H1
                      clear H1
                      obtain rfl := Option.some.inj H
                      go_wp2
                      go_ret
                      exact ⟨by first | rfl | (simp [errW_none, errW_some] <;> rfl) | (simp only [← hji21]; first | rfl | (simp [errW_none, errW_some] <;> rfl)) | (simp [*, errW_none, errW_some] <;> rfl), by repeat (first | (with_reducible first | exact HB.out | apply below_alloc | apply pw_below_drewN | apply below_drew1) | exact HB.out)⟩
                    · replace c30 := Bool.eq_false_iff.mpr c30
                      subst c30
                      have H1 : ((vinculumlaw43_below.f kj24 t366 (wrap64 (ji21 - 1))).bind fun t378 => ((vinculumlaw43_below.f kj24 t374 (wrap64 (ji21 - 1))).bind fun t381 => ((vinculumlaw43_same.f kj24 t378 t381).bind fun t384 => (some t384)))) = some r := by rw [if_neg (show ¬ (false = true) by decide)] at H; exact H
                      clear H
                      have H := H1
                      clear H1
                      replace H := Option.bind_eq_some_iff.mp H
                      obtain ⟨t378, A310, H⟩ := H
                      replace H : ((vinculumlaw43_below.f kj24 t374 (wrap64 (ji21 - 1))).bind fun t381 => ((vinculumlaw43_same.f kj24 t378 t381).bind fun t384 => (some t384))) = some r := H
                      have A31 := Aside0.mk A310
                      clear A310
                      replace H := Option.bind_eq_some_iff.mp H
                      obtain ⟨t381, A320, H⟩ := H
                      replace H : ((vinculumlaw43_same.f kj24 t378 t381).bind fun t384 => (some t384)) = some r := H
                      have A32 := Aside0.mk A320
                      clear A320
                      replace H := Option.bind_eq_some_iff.mp H
                      obtain ⟨t384, A330, H⟩ := H
                      replace H : (some t384) = some r := H
                      have A33 := Aside0.mk A330
                      clear A330
                      obtain rfl := Option.some.inj H
                      obtain ⟨Ao34, co34, eo34⟩ := Kd.R_slice HO_8.out
                      subst eo34
                      go_wp2_with (first | ((with_reducible refine gate_callee (f := 24) rfl ?_); refine goesL_ (some 65) rfl rfl Tryd.func24 (by kernel_rfl) rfl #[.slice Ao34 t366.length co34, .int .i64 (wrap64 (ji21 - 1))] rfl (by (try simp only [List.map_toArray, List.map_cons, List.map_nil]); first | done | (simp only [hji21]; rfl) | rfl | (simp only [List.length_drop, List.length_take]; rfl)) ?_; (with_reducible refine (vinculumlaw43_below.calls kj24 (fun k_ => some k_ = (.slice Ao34 t366.length co34 : Value).ownBlock) (.slice Ao34 t366.length co34) t366 (wrap64 (ji21 - 1)) t378 w _ ?side1 ?side2 A31.out).mono ?_); (case side1 => repeat (first | (with_reducible first | exact HB.out | apply below_alloc | apply pw_below_drewN | apply below_drew1) | exact HB.out)); (case side2 => exact Kd.R_tight rfl HO_8.out); rintro e w35 ⟨v379, rfl, ho0, hb, hkp⟩; refine ⟨_, rfl, ?_⟩; have n0_ := Aside0.mk (Kd.R_mono (ok' := fun k_ => some k_ ≠ (v379 : Value).ownBlock) (Kd.R_keptB (HO_10.out) hkp (fun k_ hk_ hs_ => (hk_) hs_)) (fun k_ hk_ => fun e_ => Or.elim (ho0.1 k_ e_.symm) (fun hs_ => hk_.2.1 hs_) (fun hn_ => Nat.not_le.2 hk_.2.2 hn_))); have n1_ := Aside0.mk (Kd.R_mono (ok' := fun k_ => some k_ ≠ (v376 : Value).ownBlock) ho0 (fun k_ hk_ => Or.elim hk_ (fun hs_ => fun e_ => (((HO_10.out).1 k_ e_.symm)) hs_) (fun hn_ => (Kd.fresh' (Kd.R_lt (by (with_reducible repeat (first | apply Kd.R_alloc | apply Kd.R_drewN | apply Kd.R_drew)); exact HO_10.out)) k_ hn_)))); have n2_ := Aside0.mk (hb); clear HO_10; clear HB; clear HO_8; have HO_10 := n0_; have HO380 := n1_; have HB := n2_; clear n0_ n1_ n2_; (try clear hb); (try clear hkp); (try clear ho0); obtain ⟨Ao36, co36, eo36⟩ := Kd.R_slice HO_10.out; subst eo36) | ((with_reducible refine gate_callee (f := 24) rfl ?_); refine goesL_ (some 69) rfl rfl Tryd.func24 (by kernel_rfl) rfl #[.slice Ao36 t374.length co36, .int .i64 (wrap64 (ji21 - 1))] rfl (by (try simp only [List.map_toArray, List.map_cons, List.map_nil]); first | done | (simp only [hji21]; rfl) | rfl | (simp only [List.length_drop, List.length_take]; rfl)) ?_; (with_reducible refine (vinculumlaw43_below.calls kj24 (fun k_ => some k_ = (.slice Ao36 t374.length co36 : Value).ownBlock) (.slice Ao36 t374.length co36) t374 (wrap64 (ji21 - 1)) t381 w _ ?side1 ?side2 A32.out).mono ?_); (case side1 => repeat (first | (with_reducible first | exact HB.out | apply below_alloc | apply pw_below_drewN | apply below_drew1) | exact HB.out)); (case side2 => exact Kd.R_tight rfl HO_10.out); rintro e w37 ⟨v382, rfl, ho0, hb, hkp⟩; refine ⟨_, rfl, ?_⟩; have n0_ := Aside0.mk (Kd.R_mono (ok' := fun k_ => some k_ ≠ (v382 : Value).ownBlock) (Kd.R_keptB (HO380.out) hkp (fun k_ hk_ hs_ => (hk_) hs_)) (fun k_ hk_ => fun e_ => Or.elim (ho0.1 k_ e_.symm) (fun hs_ => hk_.2.1 hs_) (fun hn_ => Nat.not_le.2 hk_.2.2 hn_))); have n1_ := Aside0.mk (Kd.R_mono (ok' := fun k_ => some k_ ≠ (v379 : Value).ownBlock) ho0 (fun k_ hk_ => Or.elim hk_ (fun hs_ => fun e_ => (((HO380.out).1 k_ e_.symm)) hs_) (fun hn_ => (Kd.fresh' (Kd.R_lt (by (with_reducible repeat (first | apply Kd.R_alloc | apply Kd.R_drewN | apply Kd.R_drew)); exact HO380.out)) k_ hn_)))); have n2_ := Aside0.mk (hb); clear HO380; clear HB; clear HO_10; have HO380 := n0_; have HO383 := n1_; have HB := n2_; clear n0_ n1_ n2_; (try clear hb); (try clear hkp); (try clear ho0); obtain ⟨Ao38, co38, eo38⟩ := Kd.R_slice HO380.out; subst eo38; obtain ⟨Ao39, co39, eo39⟩ := Kd.R_slice HO383.out; subst eo39) | ((with_reducible refine gate_callee (f := 21) rfl ?_); refine goesL_ (some 70) rfl rfl Tryd.func21 (by kernel_rfl) rfl #[.slice Ao38 t378.length co38, .slice Ao39 t381.length co39] rfl (by (try simp only [List.map_toArray, List.map_cons, List.map_nil]); first | done | rfl | (simp only [List.length_drop, List.length_take]; rfl)) ?_; (with_reducible refine (vinculumlaw43_same.calls kj24 _ _ t378 _ _ t381 t384 _ ?side1 ?side2 ?side3 ?side4 A33.out).mono ?_); (case side1 => repeat (first | exact (Kd.R_reads' HO380.out).2.2 | (with_reducible refine Kd.C_alloc ?_ _) | (with_reducible refine Kd.C_drewN ?_ _) | (with_reducible refine Kd.C_drew ?_))); (case side2 => exact (Kd.R_reads' HO380.out).2.1); (case side3 => repeat (first | exact (Kd.R_reads' HO383.out).2.2 | (with_reducible refine Kd.C_alloc ?_ _) | (with_reducible refine Kd.C_drewN ?_ _) | (with_reducible refine Kd.C_drew ?_))); (case side4 => exact (Kd.R_reads' HO383.out).2.1); rintro e w' ⟨rfl, ⟨nd, rfl⟩⟩; refine ⟨_, rfl, ?_⟩))
                      go_ret
                      exact ⟨by first | rfl | (simp [errW_none, errW_some] <;> rfl) | (simp only [← hji21]; first | rfl | (simp [errW_none, errW_some] <;> rfl)) | (simp [*, errW_none, errW_some] <;> rfl), by repeat (first | (with_reducible first | exact HB.out | apply below_alloc | apply pw_below_drewN | apply below_drew1) | exact HB.out)⟩
              · rw [if_neg c23] at H
                exact absurd H (by simp)
            · rw [if_neg c22] at H
              exact absurd H (by simp)
  · replace c5 := Bool.eq_false_iff.mpr c5
    subst c5
    have H1 : (some false) = some r := by rw [if_neg (show ¬ (false = true) by decide)] at H; exact H
    clear H
    have H := H1
    clear H1
    obtain rfl := Option.some.inj H
    go_enter Tryd.func5, Tryd.ntmps5
    go_wp2_with (first | ((with_reducible refine gate_callee (f := 17) rfl ?_); refine goesL_ (some 12) rfl rfl Tryd.func17 (by kernel_rfl) rfl #[] rfl (by (try simp only [List.map_toArray, List.map_cons, List.map_nil]); first | done | rfl | (simp only [List.length_drop, List.length_take]; rfl)) ?_; (with_reducible refine (vinculumlaw43_awake.calls k  false _ A4.out).mono ?_); rintro e w40 ⟨rfl, hb⟩; refine ⟨_, rfl, ?_⟩; have n0_ := Aside0.mk (below_step (by repeat (first | (with_reducible first | exact HB.out | apply below_alloc | apply pw_below_drewN | apply below_drew1) | exact HB.out)) hb); clear HB; have HB := n0_; clear n0_; (try clear hb); (try clear hb2); (try clear hk); (try clear hi)))
    go_ret
    exact ⟨by first | rfl | (simp [errW_none, errW_some] <;> rfl) | (simp [*, errW_none, errW_some] <;> rfl), by repeat (first | (with_reducible first | exact HB.out | apply below_alloc | apply pw_below_drewN | apply below_drew1) | exact HB.out)⟩
end Go.Proofs.YtagkhoeidjlahaaDoor.G
namespace Go.Proofs.YtagkhoeidjlahaaDoor.G.Pure
open Go.Proofs.YtagkhoeidjlahaaDoorW.PrintWords Go.RowKit
set_option linter.unusedVariables false
set_option linter.unusedSimpArgs false
theorem plc_ge' (cs : List Int) : ∀ (m i : Nat) (x : Int), x ∈ plc cs m i → (i : Int) ≤ x
  | 0, _, x, h => by simp [plc] at h
  | m + 1, i, x, h => by
    rw [plc] at h
    split at h
    · rcases List.mem_cons.1 h with rfl | h
      · omega
      · have := plc_ge' cs m (i + 1) x h; omega
    · have := plc_ge' cs m (i + 1) x h; omega
theorem plc_le' (cs : List Int) : ∀ m i : Nat, (plc cs m i).length ≤ m
  | 0, _ => by simp [plc]
  | m + 1, i => by rw [plc]; have := plc_le' cs m (i + 1); split <;> simp <;> omega
def belowL (b : Int) : List Int → List Int
  | [] => []
  | x :: l => if x ≥ b then [] else x :: belowL b l
theorem belowL_none (b : Int) (l : List Int) (h : ∀ x ∈ l, b ≤ x) : belowL b l = [] := by
  cases l with
  | nil => rfl
  | cons x l => rw [belowL, if_pos (h x (by simp))]
theorem belowL_len (b : Int) : ∀ l : List Int, (belowL b l).length ≤ l.length
  | [] => by simp [belowL]
  | x :: l => by rw [belowL]; have := belowL_len b l; split <;> simp; omega
theorem below_l (b : Int) (hl : ∀ l : List Int, True) : ∀ (rest pre : List Int), pre.length + rest.length ≤ 1000000 → Ev (fun k => vinculumlaw43_below.l0 k (pre ++ rest) b pre.length) (pre ++ belowL b rest) := by
  intro rest
  induction rest with
  | nil =>
    intro pre h
    refine Ev.step (fun k => by rw [vinculumlaw43_below.l0]) ?_
    refine ev_if (fun h => by simp at h) fun _ => ev_now ?_
    rw [belowL]
  | cons x rest ih =>
    intro pre h
    rw [List.length_cons] at h
    have hlen : ((pre ++ x :: rest).length : Int) = pre.length + rest.length + 1 := by simp; omega
    refine Ev.step (fun k => by rw [vinculumlaw43_below.l0]) ?_
    refine ev_if (fun _ => ?_) fun h => by omega
    refine ev_if (fun _ => ?_) fun h => by omega
    rw [rd_mid, belowL, wr (n := (pre.length : Int) + 1) (by omega)]
    refine ev_if (fun hb => ?_) fun hb => ?_
    · refine ev_if (fun _ => ev_now ?_) fun h => by omega
      rw [if_pos hb]; simp
    · rw [if_neg hb]
      have := ih (pre ++ [x]) (by simp; omega)
      rw [List.append_assoc, List.singleton_append, List.append_assoc, List.singleton_append, List.length_append, List.length_singleton] at this
      exact_mod_cast this
theorem below_ev (b : Int) (l : List Int) (h : l.length ≤ 1000000) : Ev (fun k => vinculumlaw43_below.f k l b) (belowL b l) := by
  have := below_l b (fun _ => trivial) l [] (by simpa using h)
  simpa [vinculumlaw43_below.f] using this
theorem belowL_plc (cs : List Int) (b : Nat) : ∀ (m i : Nat), b ≤ i + m → belowL b (plc cs m i) = plc cs (b - i) i := by
  intro m
  induction m with
  | zero => intro i h; rw [show b - i = 0 by omega]; rfl
  | succ m ih =>
    intro i h
    by_cases hi : b ≤ i
    · rw [show b - i = 0 by omega, belowL_none _ _ (fun x hx => by have := plc_ge' cs (m + 1) i x hx; omega)]; rfl
    · rw [show b - i = (b - (i + 1)) + 1 by omega, plc, plc]
      split
      · rw [belowL, if_neg (by omega), ih (i + 1) (by omega)]
      · exact ih (i + 1) (by omega)
theorem plc_congr (cs ct : List Int) : ∀ (m i : Nat), (∀ j, i ≤ j → j < i + m → perB cs j = perB ct j) → plc cs m i = plc ct m i := by
  intro m
  induction m with
  | zero => intro i _; rfl
  | succ m ih =>
    intro i h
    rw [plc, plc, h i (by omega) (by omega), ih (i + 1) (fun j h1 h2 => h j (by omega) (by omega))]
theorem formL_take (r : Bool) : ∀ (l : List S36) (n : Nat), formL r l = true → formL r (l.take n) = true
  | [], n, h => by simp [formL]
  | x :: l, 0, h => by simp [formL]
  | x :: l, n + 1, h => by
    rw [formL, Bool.and_eq_true] at h
    rw [List.take_succ_cons, formL, Bool.and_eq_true]
    exact ⟨h.1, formL_take r l n h.2⟩
theorem cntL_take : ∀ (l : List S36) (n : Nat), cntL (l.take n) ≤ cntL l
  | [], n => by simp [cntL]
  | x :: l, 0 => by simp [cntL]
  | x :: l, n + 1 => by rw [List.take_succ_cons, cntL, cntL]; have := cntL_take l n; omega
theorem depL_take : ∀ (l : List S36) (n : Nat), depL (l.take n) ≤ depL l
  | [], n => by simp [depL]
  | x :: l, 0 => by simp [depL]
  | x :: l, n + 1 => by rw [List.take_succ_cons, depL, depL]; have := depL_take l n; omega
theorem valid_take (items : List S36) (n : Nat) (h : validB (rowN items) = true) : validB (rowN (items.take n)) = true := by
  unfold validB at h ⊢
  simp only [Bool.and_eq_true, decide_eq_true_eq] at h ⊢
  obtain ⟨⟨⟨h1, h2⟩, h3⟩, h4⟩ := h
  rw [formB_eq, Bool.and_eq_true] at h2
  rw [cnt_eq] at h3
  rw [dep_eq] at h4
  have a := cntL_take items n
  have b := depL_take items n
  refine ⟨⟨⟨h1, ?_⟩, ?_⟩, ?_⟩
  · rw [formB_eq, Bool.and_eq_true]
    refine ⟨?_, formL_take _ items n h2.2⟩
    have h5 := h2.1
    have hl : (items.take n).length ≤ items.length := by rw [List.length_take]; omega
    have e : ∀ m, shp (rowN items).f0 (rowN items).f1 (rowN items).f2 m = shR ⟨#[]⟩ 0 m := fun m => by unfold shp rowN; simp
    rw [show (rowN items).f3 = items from rfl, e] at h5
    show shp (rowN items).f0 (rowN items).f1 (rowN items).f2 (items.take n).length = true
    rw [e]
    unfold shR at h5 ⊢
    simp only [Bool.and_eq_true, decide_eq_true_eq] at h5 ⊢
    exact ⟨h5.1, by omega⟩
  · rw [cnt_eq]; show 1 + cntL (items.take n) ≤ _; have : (rowN items).f3 = items := rfl; rw [this] at h3; omega
  · rw [dep_eq]; show 1 + depL (items.take n) ≤ _; have : (rowN items).f3 = items := rfl; rw [this] at h4; omega
theorem okL_take {items : List S36} (h : OkL OkNode items) (n : Nat) : OkL OkNode (items.take n) := ⟨by have := h.1; rw [List.length_take]; omega, fun x hx => h.2 x (List.mem_of_mem_take hx)⟩
theorem rd_cls (vs : List Int) (n i : Nat) (hn : n ≤ vs.length) (h : i + 1 < n) : rd (clsR vs) i = rd (clsR (vs.take n)) i := by
  rw [rdI_at _ i (by rw [clsR_len]; omega), rdI_at _ i (by rw [clsR_len, List.length_take]; omega)]
  exact cls_take vs n i hn h
theorem BreakpointBegins (d : List S68) (items : List S36) (a : Int) (ho : OkL OkEntry d) (h : OkL OkNode items) (ha : OkI .u8 a) : ∃ k, vinculumlaw43_BreakpointBegins.f k d items a = some true := by
  apply Ev.rounds
  have ha2 : 0 ≤ a ∧ a < 256 := by
    unfold OkI Lit.wf at ha
    simp [show IntKind.u8.signed = false from rfl, show IntKind.u8.bits = 8 from rfl, IntKind.min, IntKind.max] at ha
    omega
  unfold vinculumlaw43_BreakpointBegins.f
  have jt : Ev (fun k => vinculumlaw43_BreakpointBegins.j0 k d items a true) true := Ev.step (fun k => by rw [vinculumlaw43_BreakpointBegins.j0]) (ev_if (fun _ => Ev.now _) fun h => absurd rfl h)
  refine ev_bind awake43_ev ?_
  refine ev_if (fun _ => ?_) fun h => absurd rfl h
  refine ev_if (fun _ => jt) fun hd => ?_
  refine ev_bind (fewI_ev items h) ?_
  refine ev_if (fun hf => ?_) fun _ => jt
  rw [decide_eq_true_eq] at hf
  have hi := len_cnt items
  refine ev_bind (rItems_ev items h (by omega)) ?_
  refine ev_if (fun hv => ?_) fun _ => jt
  by_cases h0 : items.length = 0
  · rw [h0]; exact jt
  rw [show ((items.length : Int) == 0) = false from beq_eq_false_iff_ne.2 (by omega)]
  refine Ev.step (fun k => by rw [vinculumlaw43_BreakpointBegins.j0]) ?_
  refine ev_if (fun h => by cases h) fun _ => ?_
  refine ev_if (fun h => by omega) fun _ => ?_
  refine ev_bind (pPl_ev d items (by omega) h (by omega)) ?_
  have hw : wrap64 a = a := wr (by omega)
  have ht : Int.tmod a items.length = a % items.length := Int.tmod_eq_emod_of_nonneg ha2.1
  have hm1 := Int.emod_nonneg a (show (items.length : Int) ≠ 0 by omega)
  have hm2 := Int.emod_lt_of_pos a (show (0 : Int) < items.length by omega)
  rw [← ht] at hm1 hm2
  rw [hw]
  clear hw ht
  generalize Int.tmod a items.length = q at hm1 hm2 ⊢
  obtain ⟨n, hn⟩ : ∃ n : Nat, (n : Int) = 1 + q := ⟨(1 + q).toNat, by omega⟩
  have hn1 : 1 ≤ n ∧ n ≤ items.length := by omega
  rw [← hn, wr (n := (n : Int)) (by omega), Int.toNat_natCast]
  refine ev_if (fun _ => ?_) fun h => by omega
  refine ev_if (fun _ => ?_) fun h => by omega
  have lt : (items.take n).length = n := by rw [List.length_take]; omega
  refine ev_bind (pPl_ev d (items.take n) (by omega) (okL_take h n) (by omega)) ?_
  have hv2 := valid_take items n hv
  by_cases hdv : validD d = true
  · have c1 : clsB d items = (clsR (items.map (classV d)), 0) := by unfold clsB; rw [hdv, hv]; rfl
    have c2 : clsB d (items.take n) = (clsR ((items.map (classV d)).take n), 0) := by unfold clsB; rw [hdv, hv2, List.map_take]; rfl
    have p1 : plB d items = (0 :: plc (clsR (items.map (classV d))) (items.length - 1) 1, 0) := by unfold plB; rw [c1, if_pos rfl, if_neg h0]
    have p2 : plB d (items.take n) = (0 :: plc (clsR ((items.map (classV d)).take n)) (n - 1) 1, 0) := by unfold plB; rw [c2, if_pos rfl, if_neg (by omega), lt]
    rw [p1, p2]
    refine ev_if (fun _ => ?_) fun h => absurd rfl h
    refine Ev.step (fun k => by rw [vinculumlaw43_BreakpointBegins.j1]) ?_
    refine ev_if (fun h => by simp at h) fun _ => ?_
    have l1 := plc_le' (clsR (items.map (classV d))) (items.length - 1) 1
    have l2 := plc_le' (clsR ((items.map (classV d)).take n)) (n - 1) 1
    rw [wr (n := (n : Int) - 1) (by omega), show (n : Int) - 1 = ((n - 1 : Nat) : Int) by omega]
    refine ev_bind (below_ev _ _ (by simp; omega)) ?_
    refine ev_bind (below_ev _ _ (by simp; omega)) ?_
    have e : belowL ((n - 1 : Nat) : Int) (0 :: plc (clsR (items.map (classV d))) (items.length - 1) 1) = belowL ((n - 1 : Nat) : Int) (0 :: plc (clsR ((items.map (classV d)).take n)) (n - 1) 1) := by
      rw [belowL, belowL]
      split
      · rfl
      · rw [belowL_plc _ _ _ _ (by omega), belowL_plc _ _ _ _ (by omega)]
        congr 1
        refine plc_congr _ _ _ _ fun j hj1 hj2 => ?_
        unfold perB
        have hvl : (items.map (classV d)).length = items.length := List.length_map _
        rw [rd_cls _ n j (by omega) (by omega), show (j : Int) - 1 = ((j - 1 : Nat) : Int) by omega, rd_cls _ n (j - 1) (by omega) (by omega)]
    rw [e]
    refine ev_bind (same43_ev _ _ ?_) (ev_now (by simp))
    have := belowL_len ((n - 1 : Nat) : Int) (0 :: plc (clsR ((items.map (classV d)).take n)) (n - 1) 1)
    rw [List.length_cons] at this
    unfold M
    omega
  · rw [Bool.not_eq_true] at hdv
    have p1 : plB d items = ([], 1) := by unfold plB clsB; rw [hdv]; simp
    have p2 : plB d (items.take n) = ([], 1) := by unfold plB clsB; rw [hdv]; simp
    rw [p1, p2]
    refine ev_if (fun _ => ?_) fun h => absurd rfl h
    refine Ev.step (fun k => by rw [vinculumlaw43_BreakpointBegins.j1]) ?_
    exact ev_if (fun _ => ev_now rfl) fun h => absurd rfl h
end Go.Proofs.YtagkhoeidjlahaaDoor.G.Pure
namespace Go.Proofs.YtagkhoeidjlahaaDoor.breakpointBegins
open Go.ChangeShapes Go.WideShapes Go.ChangeAt Go.RowKit G
set_option linter.unusedVariables false
theorem own : ownKnob Tryd.prog.godebug = none := by kernel_rfl
theorem laidOut : laidOutB Tryd.prog = true := by kernel_rfl
set_option maxRecDepth 100000 in
theorem lifted (os : Os) (started : os.Started) (H : Type) (enc : TypeId × Value → H) :
    ReturnsInHanded {} Tryd.checked os 5 .any (fun w args => (Rows.breakpointBeginsSpec.pre enc Tryd.prog Tryd.f5 Rows.breakpointBeginsRow.domain false w args ∧ laidMetH Tryd.prog Rows.breakpointBeginsRow.laid w) ∧ sizedMet enc Tryd.prog Tryd.f5 (OpenSpec.ofChange Rows.breakpointBeginsSpec) false w args)
      (Rows.breakpointBeginsSpec.post enc Tryd.prog Tryd.f5 false true false false) := by
  refine returnsInHanded_of_change_and (C := Tryd.checked) (X := fun w _ => laidMetH Tryd.prog Rows.breakpointBeginsRow.laid w) (fun _ _ _ hh h => h.of_heap hh) own started (by kernel_rfl) Tryd.func5
    (ChangeSpec.witness_shaped (enc := enc) (C := Tryd.checked) (os := os) (X := fun w _ => laidMetH Tryd.prog Rows.breakpointBeginsRow.laid w) false (World.laidAll Tryd.prog os Rows.breakpointBeginsRow.laid) #[.slice none 0 0, .slice none 0 0, .int .u8 0] 8 (World.laidAll_os _ _ _)
      (World.shaped_of_ZipB (by kernel_rfl) (by kernel_rfl)) (by kernel_rfl) (by kernel_rfl) (by kernel_rfl)
      (by rw [MakeChecks.laidMetH_plain _ _ _ (by kernel_rfl)]; exact laidMet_laidAll _ (by kernel_rfl) (by kernel_rfl))) ?_
  intro W base args ds gs before hval0 hW hc _ hL _
  have hval : ∀ (j : Nat) t v, Tryd.f5.params[j]? = some t → args[j]? = some v → Value.okWide Tryd.prog W .any base t v := hval0
  have hW' := hW
  obtain ⟨p, q, hA0, hV, rfl, _, _⟩ := hW
  have hA : DataW.TrodAll enc Tryd.prog W 0 (fun _ => true) true Tryd.f5.params.toList args.toList ds p := hA0
  rw [Tryd.params5] at hA hval
  obtain ⟨v0, vs0, d0, ds0, p0, q0, hargs, rfl, rfl, h0, r0⟩ := trodAll_cons hA
  obtain ⟨v1, vs1, d1, ds1, p1, q1, rfl, rfl, rfl, h1, r1⟩ := trodAll_cons r0
  obtain ⟨v2, vs2, d2, ds2, p2, q2, rfl, rfl, rfl, h2, r2⟩ := trodAll_cons r1
  obtain ⟨rfl, rfl, rfl⟩ := trodAll_nil r2
  obtain rfl : args = #[v0, v1, v2] := by cases args; simp_all
  obtain ⟨rfl, rfl⟩ := trodVars_none hV
  have k0 := h0
  have lt0 : ∀ x ∈ p0, x.block < W.heap.size := by obtain ⟨m, hm⟩ := k0; exact DataW.trod_lt m _ _ _ hm
  obtain ⟨x0, A0, c0, rfl, le0, C0, o0⟩ := entries_arg (hval 0 22 v0 rfl rfl) h0
  have k1 := h1
  have lt1 : ∀ x ∈ p1, x.block < W.heap.size := by obtain ⟨m, hm⟩ := k1; exact DataW.trod_lt m _ _ _ hm
  obtain ⟨x1, A1, c1, rfl, le1, C1, o1⟩ := nodes_arg (hval 1 23 v1 rfl rfl) h1
  have k2 := h2
  have lt2 : ∀ x ∈ p2, x.block < W.heap.size := by obtain ⟨m, hm⟩ := k2; exact DataW.trod_lt m _ _ _ hm
  obtain ⟨x2, rfl, rfl, rfl, o2⟩ := open_int (show Tryd.prog.underlying 5 = some (.int .u8) from by kernel_rfl) (hval 2 5 v2 rfl rfl) h2
  clear hA0 hval0
  obtain ⟨k, hk⟩ := G.Pure.BreakpointBegins x0 x1 x2 o0 o1 o2
  refine (vinculumlaw43_BreakpointBegins.calls k A0 c0 x0 A1 c1 x1 x2 true W C0 le0 C1 le1 hk).mono fun e W' ⟨he, bel⟩ => ?_
  subst he
  exact ⟨_, rfl, _, _, _, [], _, [], hW', trodAll_mk1 (shut_bool Tryd.underlying4 _), (trodAll_cons_mk (Below.trod laidOut (by kernel_rfl) (of_decide_eq_true (by kernel_rfl)) k0 bel lt0) (trodAll_cons_mk (Below.trod laidOut (by kernel_rfl) (of_decide_eq_true (by kernel_rfl)) k1 bel lt1) (trodAll_cons_mk (Below.trod laidOut (by kernel_rfl) (of_decide_eq_true (by kernel_rfl)) k2 bel lt2) trodAll_mk0))), rfl, bel.frame _, fun h => by cases h⟩
theorem holds : Rows.BreakpointBeginsSaid :=
  OpenClaim.holds_of_wide 5 Tryd.f5 rfl rfl rfl rfl rfl rfl rfl ⟨rfl, rfl, rfl, rfl, rfl⟩ rfl rfl rfl rfl rfl (by kernel_rfl) Tryd.func5 (by kernel_rfl)
    (of_decide_eq_true (by kernel_rfl)) (by unfold Func.isWrapper; first | (rw [if_pos (by decide +kernel)]; kernel_rfl) | (rw [if_neg (by decide +kernel)]; exact ⟨rfl, rfl⟩))
    (fun os started H enc _ => lifted os started H enc)
theorem card : Rows.BreakpointBeginsCardSaid :=
  Claim7.holds_tied_plain_at .later [] [.data, .pinned] true (true, "c39d0df16196e9f8f3819fe85171d6b94f20910c6b42b30e9fe380aa6e06d008") false holds (fun _ h => by cases h) (by kernel_rfl) (fun _ h => by cases h) breakpointBegins_row_tie rfl ⟨rfl, rfl⟩ (by kernel_rfl) rfl
    (fun f fn hf hfn => by
      obtain rfl : f = 5 := Option.some.inj ((show Tryd.prog.funcNamed "vinculum/vinculumlaw43.BreakpointBegins" = some 5 by kernel_rfl).symm.trans hf) |>.symm
      obtain rfl : fn = Tryd.f5 := (Option.some.inj (Tryd.func5.symm.trans hfn)).symm
      exact ⟨by kernel_rfl, fun j t ht => by
        rw [Tryd.params5] at ht
        have hm : t ∈ [22, 23, 5] := by simpa using Array.mem_of_getElem? ht
        have hall : ([22, 23, 5].all fun u => !Tryd.prog.wantsStandIn u) = true := by kernel_rfl
        exact (show Tryd.prog.wantsStandIn t = false by simpa using List.all_eq_true.1 hall t hm)⟩)
    (by kernel_rfl)
end Go.Proofs.YtagkhoeidjlahaaDoor.breakpointBegins
namespace Go.Proofs.YtagkhoeidjlahaaDoor
theorem breakpointBegins_card : Rows.BreakpointBeginsCardSaid := breakpointBegins.card
#print axioms breakpointBegins_card
end Go.Proofs.YtagkhoeidjlahaaDoor
