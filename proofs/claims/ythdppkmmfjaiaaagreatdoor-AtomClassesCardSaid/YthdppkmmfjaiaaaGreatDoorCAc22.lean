-- Written by pack2.py, a program of this session: this session's texts and those that the kit's printer wrote for this claim, pruned to what the claims use.
import Derived.Test.YthdppkmmfjaiaaaGreatDoorCAc2
import Derived.Test.YthdppkmmfjaiaaaGreatDoorCAc20
import Derived.Test.YthdppkmmfjaiaaaGreatDoorCAc15
import Derived.Test.YthdppkmmfjaiaaaGreatDoorCAc21
import Derived.Test.YthdppkmmfjaiaaaGreatDoorCAc19
namespace Go.Proofs.YthdppkmmfjaiaaaGreatDoor.G
open Go.RowKit Go.Proofs.YthdppkmmfjaiaaaGreatDoorW.PrintWords Go.Proofs.YthdppkmmfjaiaaaGreatDoorW.PrintLast Go.Proofs.YthdppkmmfjaiaaaGreatDoorW.PrintMore
attribute [local go_sem] max2_int min2_int max_two min_two max_three min_three max_four min_four
set_option linter.unusedVariables false
set_option linter.unusedSimpArgs false
mutual
def vinculumref26_Classes.j0 : Nat → List (S75) → List (S48) → Bool → Option (List Int × Int)
  | 0, _, _, _ => none
  | k + 1, x0, x1, x15 => if x15 = true then (some (([] : List Int), 1)) else (vinculumref26_Classes.l0 k x0 x1 ([] : List Int) 0)
def vinculumref26_Classes.l0 : Nat → List (S75) → List (S48) → List Int → Int → Option (List Int × Int)
  | 0, _, _, _, _ => none
  | k + 1, x0, x1, x6, x7 => if x7 < (x1.length : Int) then (if 0 ≤ x7 then ((vinculumref26_Class.f k x0 ((rd_T48 x1 x7).f0) ((rd_T48 x1 x7).f1) ((rd_T48 x1 x7).f2) ((rd_T48 x1 x7).f3)).bind fun t370 => (if x6.length < 17592186044416 then (vinculumref26_Classes.l0 k x0 x1 (x6 ++ [t370]) (wrap64 (x7 + 1))) else (none))) else (none)) else ((vinculumref26_Row.f k x6).bind fun t374 => (some (t374, 0)))
end
def vinculumref26_Classes.f (k : Nat) (l0 : List (S75)) (l1 : List (S48)) : Option (List Int × Int) := (vinculumref08_Valid.f k l0).bind fun t367 => (if t367 = true then ((vinculumref09_ValidItems.f k l1).bind fun t368 => (vinculumref26_Classes.j0 k l0 l1 (!t368))) else (vinculumref26_Classes.j0 k l0 l1 true))
set_option maxHeartbeats 8000000 in
set_option maxRecDepth 100000 in
theorem vinculumref26_Classes.calls (k : Nat) (A0 : Option Addr) (c0 : Nat) (l0 : List (S75)) (A1 : Option Addr) (c1 : Nat) (l1 : List (S48)) (r1 : List Int) (r2 : Int) (w : World) (hr0 : Kd.C k75 w A0 l0.length l0) (hc0 : l0.length ≤ c0) (hr1 : Kd.C k48 w A1 l1.length l1) (hc1 : l1.length ≤ c1) (h : vinculumref26_Classes.f k l0 l1 = some (r1, r2)) :
    Calls Tryz.prog 8 #[.slice A0 l0.length c0, .slice A1 l1.length c1] w fun e w' => ∃ v0_ : Value, e = .returned (.tuple #[v0_, .int .i64 r2]) ∧ Kd.R (Kd.int .i64) 3 w' w.heap.size (fun _ => True) v0_ r1 ∧ Below w.heap.size w w' := by
  have hu48 := Tryz.underlying48
  have HR0 := Aside0.mk hr0
  have HC0 := Aside0.mk hc0
  clear hr0 hc0
  have HR1 := Aside0.mk hr1
  have HC1 := Aside0.mk hc1
  clear hr1 hc1
  have HB := Aside0.mk (Below.refl w.heap.size w)
  have H : ((vinculumref08_Valid.f k l0).bind fun t367 => (if t367 = true then ((vinculumref09_ValidItems.f k l1).bind fun t368 => (vinculumref26_Classes.j0 k l0 l1 (!t368))) else (vinculumref26_Classes.j0 k l0 l1 true))) = some (r1, r2) := h
  clear h
  have HC3 := Aside0.mk H
  clear H
  go_enter Tryz.func8, Tryz.ntmps8
  go_upto_region 1 with (fail)
  go_cut [15] (fun v15 wc => ∃ (kq : Nat) (x15_2 : Bool), v15 = .bool x15_2 ∧ Aside0 (vinculumref26_Classes.j0 kq l0 l1 x15_2 = some (r1, r2)) ∧ Aside0 (kq ≤ k) ∧ Aside0 (Below w.heap.size w wc))
  case first =>
    have H := HC3.out
    clear HC3
    replace H := Option.bind_eq_some_iff.mp H
    obtain ⟨t367, A40, H⟩ := H
    replace H : (if t367 = true then ((vinculumref09_ValidItems.f k l1).bind fun t368 => (vinculumref26_Classes.j0 k l0 l1 (!t368))) else (vinculumref26_Classes.j0 k l0 l1 true)) = some (r1, r2) := H
    have A4 := Aside0.mk A40
    clear A40
    by_cases c5 : t367 = true
    · subst c5
      have H1 : ((vinculumref09_ValidItems.f k l1).bind fun t368 => (vinculumref26_Classes.j0 k l0 l1 (!t368))) = some (r1, r2) := by rw [if_pos rfl] at H; exact H
      clear H
      have H := H1
      clear H1
      replace H := Option.bind_eq_some_iff.mp H
      obtain ⟨t368, A60, H⟩ := H
      replace H : (vinculumref26_Classes.j0 k l0 l1 (!t368)) = some (r1, r2) := H
      have A6 := Aside0.mk A60
      clear A60
      have H' := Aside0.mk H
      clear H
      go_wp2_with (first | ((with_reducible refine gate_callee (f := 23) rfl ?_); refine goesL_ (some 9) rfl rfl Tryz.func23 (by kernel_rfl) rfl #[.slice A0 l0.length c0] rfl (by (try simp only [List.map_toArray, List.map_cons, List.map_nil]); first | done | rfl | (simp only [List.length_drop, List.length_take]; rfl)) ?_; (with_reducible refine (vinculumref08_Valid.calls k _ _ l0 true _ ?side1 ?side2 A4.out).mono ?_); (case side1 => repeat (first | exact (Kd.C_below HR0.out HB.out) | (with_reducible refine Kd.C_alloc ?_ _) | (with_reducible refine Kd.C_drewN ?_ _) | (with_reducible refine Kd.C_drew ?_))); (case side2 => exact HC0.out); rintro e w7 ⟨rfl, hb⟩; refine ⟨_, rfl, ?_⟩; have n0_ := Aside0.mk (below_step (by repeat (first | (with_reducible first | exact HB.out | apply below_alloc | apply pw_below_drewN | apply below_drew1) | exact HB.out)) hb); clear HB; have HB := n0_; clear n0_; (try clear hb); (try clear hb2); (try clear hk); (try clear hi)) | (go_at_call 24; (with_reducible refine (vinculumref09_ValidItems.calls k _ _ l1 t368 _ ?side1 ?side2 A6.out).mono ?_); (case side1 => repeat (first | exact (Kd.C_below HR1.out HB.out) | (with_reducible refine Kd.C_alloc ?_ _) | (with_reducible refine Kd.C_drewN ?_ _) | (with_reducible refine Kd.C_drew ?_))); (case side2 => exact HC1.out); rintro e w8 ⟨rfl, hb⟩; have n0_ := Aside0.mk (below_step (by repeat (first | (with_reducible first | exact HB.out | apply below_alloc | apply pw_below_drewN | apply below_drew1) | exact HB.out)) hb); clear HB; have HB := n0_; clear n0_; (try clear hb); (try clear hb2); (try clear hk); (try clear hi)))
      go_meet
      case rel => exact ⟨_, (!t368), (by first | rfl | (simp; done) | (simp [*]; done)), H', ⟨by first | omega | exact Nat.le_refl _⟩, ⟨by repeat (first | (with_reducible first | exact HB.out | apply below_alloc | apply pw_below_drewN | apply below_drew1) | exact HB.out)⟩⟩
    · replace c5 := Bool.eq_false_iff.mpr c5
      subst c5
      have H1 : (vinculumref26_Classes.j0 k l0 l1 true) = some (r1, r2) := by rw [if_neg (show ¬ (false = true) by decide)] at H; exact H
      clear H
      have H := H1
      clear H1
      have H' := Aside0.mk H
      clear H
      go_wp2_with (first | ((with_reducible refine gate_callee (f := 23) rfl ?_); refine goesL_ (some 9) rfl rfl Tryz.func23 (by kernel_rfl) rfl #[.slice A0 l0.length c0] rfl (by (try simp only [List.map_toArray, List.map_cons, List.map_nil]); first | done | rfl | (simp only [List.length_drop, List.length_take]; rfl)) ?_; (with_reducible refine (vinculumref08_Valid.calls k _ _ l0 false _ ?side1 ?side2 A4.out).mono ?_); (case side1 => repeat (first | exact (Kd.C_below HR0.out HB.out) | (with_reducible refine Kd.C_alloc ?_ _) | (with_reducible refine Kd.C_drewN ?_ _) | (with_reducible refine Kd.C_drew ?_))); (case side2 => exact HC0.out); rintro e w9 ⟨rfl, hb⟩; refine ⟨_, rfl, ?_⟩; have n0_ := Aside0.mk (below_step (by repeat (first | (with_reducible first | exact HB.out | apply below_alloc | apply pw_below_drewN | apply below_drew1) | exact HB.out)) hb); clear HB; have HB := n0_; clear n0_; (try clear hb); (try clear hb2); (try clear hk); (try clear hi)))
      go_meet
      case rel => exact ⟨_, (true), (by first | rfl | (simp; done) | (simp [*]; done)), H', ⟨by first | omega | exact Nat.le_refl _⟩, ⟨by repeat (first | (with_reducible first | exact HB.out | apply below_alloc | apply pw_below_drewN | apply below_drew1) | exact HB.out)⟩⟩
  case rest =>
    clear HC3
    try clear c1
    try clear c2
    try clear p2
    try clear c5
    try clear c8
    obtain ⟨kq, x15_2, rfl, HA, HJ2, HB⟩ := hcut
    cases kq with
    | zero => exact absurd HA.out (by simp [vinculumref26_Classes.j0])
    | succ kj2 =>
      have H := HA.out
      clear HA
      simp only [vinculumref26_Classes.j0] at H
      by_cases c10 : x15_2 = true
      · subst c10
        have H1 : (some (([] : List Int), 1)) = some (r1, r2) := by rw [if_pos rfl] at H; exact H
        clear H
        have H := H1
        clear H1
        simp only [Option.some.injEq, Prod.mk.injEq] at H
        obtain ⟨rfl, rfl⟩ := H
        go_wp2
        go_ret2
        exact ⟨_, by first | rfl | (simp [errW_none, errW_some] <;> rfl) | (simp [*, errW_none, errW_some] <;> rfl), by first | exact Kd.R_nil _ _ _ _ _ | exact Kd.N_nil _ _ _ _ _ | exact Kd.V_nil _ _ _ _ _ | exact Kd.Q_nil _ _ _ _ _ | exact Kd.S_nil _ _ _ _ _, by repeat (first | (with_reducible first | exact HB.out | apply below_alloc | apply pw_below_drewN | apply below_drew1) | exact HB.out)⟩
      · replace c10 := Bool.eq_false_iff.mpr c10
        subst c10
        have H1 : (vinculumref26_Classes.l0 kj2 l0 l1 ([] : List Int) 0) = some (r1, r2) := by rw [if_neg (show ¬ (false = true) by decide)] at H; exact H
        clear H
        have H := H1
        clear H1
        have H' := Aside0.mk H
        clear H
        go_wp2
        go_loopg [6, 7] kj2 (fun kq v6 v7 w' => ∃ (x6_2 : List Int) (x7_2 : Int), v7 = .int .i64 x7_2 ∧ Aside0 (vinculumref26_Classes.l0 kq l0 l1 x6_2 x7_2 = some (r1, r2)) ∧ Aside0 (kq ≤ kj2) ∧ Aside0 (Kd.R (Kd.int .i64) 3 w' w.heap.size (fun _ => True) v6 x6_2) ∧ Aside0 (Below w.heap.size w w'))
        case atStart => exact ⟨(([] : List Int)), (0), (by first | rfl | (simp; done) | (simp [*]; done)), H', ⟨Nat.le_refl _⟩, ⟨by first | exact Kd.R_nil _ _ _ _ _ | exact Kd.N_nil _ _ _ _ _ | exact Kd.V_nil _ _ _ _ _ | exact Kd.Q_nil _ _ _ _ _ | exact Kd.S_nil _ _ _ _ _⟩, ⟨by repeat (first | (with_reducible first | exact HB.out | apply below_alloc | apply pw_below_drewN | apply below_drew1) | exact HB.out)⟩⟩
        case round =>
          clear H'
          try clear c1
          try clear c2
          try clear p2
          try clear c5
          try clear c8
          try clear c10
          try clear p2
          obtain ⟨x6_2, x7_2, rfl, HA, HK2, HO_6, HB⟩ := hrel
          cases gk with
          | zero => exact absurd HA.out (by simp [vinculumref26_Classes.l0])
          | succ k2 =>
            have H := HA.out
            clear HA
            simp only [vinculumref26_Classes.l0] at H
            by_cases c11 : x7_2 < (l1.length : Int)
            · rw [if_pos c11] at H
              have c11b0 : decide (x7_2 < (l1.length : Int)) = true := decide_eq_true c11
              clear c11
              by_cases c12 : 0 ≤ x7_2
              · rw [if_pos c12] at H
                have c12b0 : decide (0 ≤ x7_2) = true := decide_eq_true c12
                clear c12
                replace H := Option.bind_eq_some_iff.mp H
                obtain ⟨t370, A130, H⟩ := H
                replace H : (if x6_2.length < 17592186044416 then (vinculumref26_Classes.l0 k2 l0 l1 (x6_2 ++ [t370]) (wrap64 (x7_2 + 1))) else (none)) = some (r1, r2) := H
                have A13 := Aside0.mk A130
                clear A130
                by_cases c14 : x6_2.length < 17592186044416
                · rw [if_pos c14] at H
                  have LMc14 := Aside0.mk c14
                  clear c14
                  obtain ⟨y371, hy371⟩ : ∃ y_ : List Int, y_ = (x6_2 ++ [t370]) := ⟨_, rfl⟩
                  replace H : (vinculumref26_Classes.l0 k2 l0 l1 y371 (wrap64 (x7_2 + 1))) = some (r1, r2) := by first | (rw [hy371]; with_reducible exact H) | (have H2_ := (Option.bind_some _ _).symm.trans H; rw [hy371]; with_reducible exact H2_) | (have H2_ := (Option.bind_some _ _).symm.trans H; with_reducible exact H2_) | with_reducible exact H | (rw [hy371]; exact H) | exact H
                  have Ny371 := Aside0.mk hy371
                  clear hy371
                  have H' := Aside0.mk H
                  clear H
                  have p369 : 0 ≤ (x7_2 : Int) := of_decide_eq_true (by first | (with_reducible assumption) | assumption)
                  have q369 : x7_2 < (l1.length : Int) := of_decide_eq_true (by first | (with_reducible assumption) | assumption)
                  obtain ⟨ad369, A369_3, c369_3, e369, hx369_0, hx369_1, hx369_2, hx369_3, hl369_3, hi369_3⟩ := at_T48 HR1.out x7_2 p369 q369
                  cases e369
                  replace hx369_0 := (HB.out.cell (World.block_lt_of_cell? w _ hx369_0)).trans hx369_0
                  replace hx369_1 := (HB.out.cell (World.block_lt_of_cell? w _ hx369_1)).trans hx369_1
                  replace hx369_2 := (HB.out.cell (World.block_lt_of_cell? w _ hx369_2)).trans hx369_2
                  replace hx369_3 := (HB.out.cell (World.block_lt_of_cell? w _ hx369_3)).trans hx369_3
                  have HR369_3 := Aside0.mk hi369_3
                  have HC369_3 := Aside0.mk hl369_3
                  clear hi369_3 hl369_3
                  replace p369 := eq_true p369
                  replace q369 := eq_true q369
                  go_wp2_with (first | ((with_reducible refine gate_callee (f := 25) rfl ?_); refine goesL_ (some 28) rfl rfl Tryz.func25 (by kernel_rfl) rfl #[.slice A0 l0.length c0, .agg #[.int .i64 ((rd_T48 l1 x7_2).f0), .string ((rd_T48 l1 x7_2).f1), .int .i64 ((rd_T48 l1 x7_2).f2), .slice A369_3 ((rd_T48 l1 x7_2).f3).length c369_3]] rfl (by (try simp only [List.map_toArray, List.map_cons, List.map_nil]); first | done | rfl | (simp only [List.length_drop, List.length_take]; rfl)) ?_; (with_reducible refine (vinculumref26_Class.calls k2 _ _ l0 ((rd_T48 l1 x7_2).f0) ((rd_T48 l1 x7_2).f1) ((rd_T48 l1 x7_2).f2) _ _ ((rd_T48 l1 x7_2).f3) t370 _ ?side1 ?side2 ?side3 ?side4 A13.out).mono ?_); (case side1 => repeat (first | exact (Kd.C_below HR0.out HB.out) | (with_reducible refine Kd.C_alloc ?_ _) | (with_reducible refine Kd.C_drewN ?_ _) | (with_reducible refine Kd.C_drew ?_))); (case side2 => exact HC0.out); (case side3 => repeat (first | exact (Kd.C_below HR369_3.out HB.out) | (with_reducible refine Kd.C_alloc ?_ _) | (with_reducible refine Kd.C_drewN ?_ _) | (with_reducible refine Kd.C_drew ?_))); (case side4 => exact HC369_3.out); rintro e w15 ⟨rfl, hb⟩; refine ⟨_, rfl, ?_⟩; have n0_ := Aside0.mk (Kd.R_below (by (with_reducible repeat (first | apply Kd.R_alloc | apply Kd.R_drewN | apply Kd.R_drew)); exact HO_6.out) hb); have n1_ := Aside0.mk (below_step (by repeat (first | (with_reducible first | exact HB.out | apply below_alloc | apply pw_below_drewN | apply below_drew1) | exact HB.out)) hb); clear HO_6; clear HB; have HO_6 := n0_; have HB := n1_; clear n0_ n1_; (try clear hb); (try clear hb2); (try clear hk); (try clear hi)) | ((with_reducible refine gate_builtin (b := .append) (xs := #[.tmp 22, .tmp 29]) rfl ?_); at_builtin; refine Kd.R_append (Kd.int .i64) (w0 := w) w.heap.size rfl (.tmp 22) (.tmp 29) 26 3 (.int .i64 0) 8 rfl Tryz.underlying26 info3 rfl (by decide) (by omega) u6 x6_2 t370 [.int .i64 t370] (fun _ => True) (fun _ => False) rfl rfl ?aP (fun _ hk => hk.elim) ?aF ?aO ?aB ?aS ?aL ?_; (case aP => exact rfl); (case aB => exact (by repeat (first | (with_reducible first | exact HB.out | apply below_alloc | apply pw_below_drewN | apply below_drew1) | exact HB.out))); (case aF => exact (fun _ _ => trivial)); (case aO => exact (by (with_reducible repeat (first | apply Kd.R_alloc | apply Kd.R_drewN | apply Kd.R_drew)); exact HO_6.out)); (case aS => exact (below_size (by repeat (first | (with_reducible first | exact HB.out | apply below_alloc | apply pw_below_drewN | apply below_drew1) | exact HB.out)))); (case aL => have := LMc14.out; omega); intro v372 w16 ho hb hg hat; rw [← Ny371.out] at ho; have n0_ := Aside0.mk (hb); have n1_ := Aside0.mk (ho); clear HB; clear HO_6; have HB := n0_; have HO373 := n1_; clear n0_ n1_; clear ho hb hg hat))
                  go_roundg k2
                  case measure => have := HJ2.out; have := HK2.out; omega
                  case rel => exact ⟨(y371), (wrap64 (x7_2 + 1)), (by first | rfl | (simp; done) | (simp [*]; done)), H', ⟨by have := HJ2.out; have := HK2.out; omega⟩, ⟨by (with_reducible repeat (first | apply Kd.R_alloc | apply Kd.R_drewN | apply Kd.R_drew)); exact HO373.out⟩, ⟨by repeat (first | (with_reducible first | exact HB.out | apply below_alloc | apply pw_below_drewN | apply below_drew1) | exact HB.out)⟩⟩
                · rw [if_neg c14] at H
                  exact absurd H (by simp)
              · rw [if_neg c12] at H
                exact absurd H (by simp)
            · rw [if_neg c11] at H
              have c11b0 : decide (x7_2 < (l1.length : Int)) = false := decide_eq_false c11
              clear c11
              replace H := Option.bind_eq_some_iff.mp H
              obtain ⟨t374, A170, H⟩ := H
              replace H : (some (t374, 0)) = some (r1, r2) := H
              have A17 := Aside0.mk A170
              clear A170
              simp only [Option.some.injEq, Prod.mk.injEq] at H
              obtain ⟨rfl, rfl⟩ := H
              obtain ⟨Ao18, co18, eo18⟩ := Kd.R_slice HO_6.out
              subst eo18
              go_wp2_with (first | ((with_reducible refine gate_callee (f := 26) rfl ?_); refine goesL_ (some 32) rfl rfl Tryz.func26 (by kernel_rfl) rfl #[.slice Ao18 x6_2.length co18] rfl (by (try simp only [List.map_toArray, List.map_cons, List.map_nil]); first | done | rfl | (simp only [List.length_drop, List.length_take]; rfl)) ?_; (with_reducible refine (vinculumref26_Row.calls k2 _ _ x6_2 t374 _ ?side1 ?side2 A17.out).mono ?_); (case side1 => repeat (first | exact (Kd.R_reads' HO_6.out).2.2 | (with_reducible refine Kd.C_alloc ?_ _) | (with_reducible refine Kd.C_drewN ?_ _) | (with_reducible refine Kd.C_drew ?_))); (case side2 => exact (Kd.R_reads' HO_6.out).2.1); rintro e w19 ⟨v375, rfl, ho0, hb⟩; refine ⟨_, rfl, ?_⟩; have n0_ := Aside0.mk (Kd.R_elder' (by (with_reducible repeat (first | apply Kd.R_alloc | apply Kd.R_drewN | apply Kd.R_drew)); exact HO_6.out) (Kd.R_base ho0) hb); have n1_ := Aside0.mk (Kd.R_lower (Kd.R_new' ho0 (Kd.R_lt (by (with_reducible repeat (first | apply Kd.R_alloc | apply Kd.R_drewN | apply Kd.R_drew)); exact HO_6.out))) (below_size (by repeat (first | (with_reducible first | exact HB.out | apply below_alloc | apply pw_below_drewN | apply below_drew1) | exact HB.out)))); have n2_ := Aside0.mk (below_step (by repeat (first | (with_reducible first | exact HB.out | apply below_alloc | apply pw_below_drewN | apply below_drew1) | exact HB.out)) hb); clear HO_6; clear HB; have HO_6 := n0_; have HO376 := n1_; have HB := n2_; clear n0_ n1_ n2_; (try clear hb); (try clear hb2); (try clear hk); (try clear hi); (try clear ho0)))
              go_ret2
              exact ⟨_, by first | rfl | (simp [errW_none, errW_some] <;> rfl) | (simp [*, errW_none, errW_some] <;> rfl), by (with_reducible repeat (first | apply Kd.R_alloc | apply Kd.R_drewN | apply Kd.R_drew)); exact Kd.R_mono HO376.out (fun _ hk => trivial), by repeat (first | (with_reducible first | exact HB.out | apply below_alloc | apply pw_below_drewN | apply below_drew1) | exact HB.out)⟩
end Go.Proofs.YthdppkmmfjaiaaaGreatDoor.G
namespace Go.Proofs.YthdppkmmfjaiaaaGreatDoor.G.Pure
open Go.Proofs.YthdppkmmfjaiaaaGreatDoorW.PrintWords Go.RowKit
set_option linter.unusedVariables false
set_option linter.unusedSimpArgs false
def tailB (s : ByteArray) (q : Int) : Bool := decide (1 ≤ s.size) && decide (s.size ≤ 16) && decide (0 ≤ q) && decide (q ≤ 7)
theorem rProper_l (s : ByteArray) (q : Int) (b1 b2 : Bool) (hs : s.size ≤ M) : ∀ (m i : Nat), s.size - i = m → Ev (fun k => vinculumref08_proper.l0 k i s q b1 b2) (!(((L s).drop i).any badB) && tailB s q) := by
  intro m
  induction m with
  | zero =>
    intro i hi
    refine Ev.step (fun k => by rw [vinculumref08_proper.l0]) ?_
    refine ev_if (fun h => by omega) fun _ => ?_
    rw [List.drop_eq_nil_of_le (by rw [L_length]; omega)]
    unfold tailB
    refine ev_if (fun h1 => ?_) fun h1 => ev_now ?_
    · refine ev_if (fun h2 => ?_) fun h2 => ev_now ?_
      · refine ev_if (fun h3 => ev_now ?_) fun h3 => ev_now ?_
        · rw [decide_eq_true (show 1 ≤ s.size by omega), decide_eq_true (show s.size ≤ 16 by omega), decide_eq_true (show 0 ≤ q by omega)]; rfl
        · rw [decide_eq_false (show ¬ 0 ≤ q by omega)]; simp
      · rw [decide_eq_false (show ¬ s.size ≤ 16 by omega)]; simp
    · rw [decide_eq_false (show ¬ 1 ≤ s.size by omega)]; simp
  | succ m ih =>
    intro i hi
    unfold M at hs
    refine Ev.step (fun k => by rw [vinculumref08_proper.l0]) ?_
    refine ev_if (fun _ => ?_) fun h => by omega
    refine ev_if (fun _ => ?_) fun h => by omega
    rw [List.drop_eq_getElem_cons (by rw [L_length]; omega), List.any_cons, bt_L s i (by omega)]
    refine ev_if (fun h => ev_now ?_) fun h1 => ?_
    · rw [show badB ((L s)[i]'(by rw [L_length]; omega)) = true by unfold badB badC; rw [decide_eq_true h]; rfl]; rfl
    refine ev_if (fun h => ev_now ?_) fun h2 => ?_
    · rw [show badB ((L s)[i]'(by rw [L_length]; omega)) = true by unfold badB badC; rw [decide_eq_true (gt_iff_lt.1 h)]; simp]; rfl
    · rw [show badB ((L s)[i]'(by rw [L_length]; omega)) = false by unfold badB badC; rw [decide_eq_false h1, decide_eq_false (fun e => h2 (gt_iff_lt.2 e))]; rfl, Bool.false_or, wr (n := (i : Int) + 1) (by omega)]
      have := ih (i + 1) (by omega)
      exact_mod_cast this
theorem properB_eq (s : ByteArray) (q : Int) : properB s q = (!((L s).any badB) && tailB s q) := by
  unfold properB tailB L
  rw [Bool.eq_iff_iff]
  simp only [Bool.and_eq_true, decide_eq_true_eq]
  constructor
  · rintro ⟨⟨⟨⟨a, b⟩, c⟩, d⟩, e⟩; exact ⟨c, ⟨⟨a, b⟩, d⟩, e⟩
  · rintro ⟨c, ⟨⟨a, b⟩, d⟩, e⟩; exact ⟨⟨⟨⟨a, b⟩, c⟩, d⟩, e⟩
theorem rProper_ev (s : ByteArray) (q : Int) (b1 b2 : Bool) (hs : s.size ≤ M) : Ev (fun k => vinculumref08_proper.f k s q b1 b2) (properB s q) := by
  have := rProper_l s q b1 b2 hs s.size 0 rfl
  rw [properB_eq]
  simpa [vinculumref08_proper.f] using this
theorem rValid08_ev (l : List S75) (hl : l.length ≤ 1000000) (ho : ∀ x ∈ l, OkEntry x) : Ev (fun k => vinculumref08_Valid.f k l) (validD l) := by
  have key : ∀ (m i : Nat), l.length - i = m → i ≤ l.length → (∀ (a : Nat) (h : a < l.length), a < i → properB l[a].f0 l[a].f1 = true) → (∀ (a b : Nat) (h : b < l.length) (hab : a < b), b < i → ¬ (l[a]'(by omega)).f0 = l[b].f0) → Ev (fun k => vinculumref08_Valid.l0 k l i) (validD l) := by
    intro m
    induction m with
    | zero =>
      intro i hi hle hp hd
      refine Ev.step (fun k => by rw [vinculumref08_Valid.l0]) ?_
      refine ev_if (fun h => by omega) fun _ => ev_now ?_
      rw [Bool.eq_iff_iff, decide_eq_true_eq, validD_iff]
      exact ⟨fun h => ⟨fun a ha => hp a ha (by omega), by omega, fun a b hb hab => hd a b hb hab (by omega)⟩, fun h => by have := h.2.1; omega⟩
    | succ m ih =>
      intro i hi hle hp hd
      have hlt : i < l.length := by omega
      refine Ev.step (fun k => by rw [vinculumref08_Valid.l0]) ?_
      refine ev_if (fun _ => ?_) fun h => by omega
      refine ev_if (fun _ => ?_) fun h => by omega
      rw [rdE hlt]
      refine ev_bind (rProper_ev _ _ _ _ (okE_open (ho _ (List.getElem_mem hlt)))) ?_
      refine ev_if (fun hpi => ?_) fun hpi => ev_now ?_
      · have inner : ∀ (m' j : Nat), i - j = m' → j ≤ i → (∀ (a : Nat) (h : a < i), a < j → ¬ (l[a]'(by omega)).f0 = l[i].f0) → Ev (fun k => vinculumref08_Valid.l1 k l i j) (validD l) := by
          intro m'
          induction m' with
          | zero =>
            intro j hj hji hn
            refine Ev.step (fun k => by rw [vinculumref08_Valid.l1]) ?_
            refine ev_if (fun h => by omega) fun _ => ?_
            rw [wr (n := (i : Int) + 1) (by omega)]
            have := ih (i + 1) (by omega) (by omega) (fun a h ha => by
              rcases Nat.lt_or_ge a i with h1 | h1
              · exact hp a h h1
              · obtain rfl : a = i := by omega
                exact hpi) (fun a b hb hab hbi => by
              rcases Nat.lt_or_ge b i with h1 | h1
              · exact hd a b hb hab h1
              · obtain rfl : b = i := by omega
                exact hn a hab (by omega))
            exact_mod_cast this
          | succ m' ih' =>
            intro j hj hji hn
            refine Ev.step (fun k => by rw [vinculumref08_Valid.l1]) ?_
            refine ev_if (fun _ => ?_) fun h => by omega
            refine ev_if (fun _ => ?_) fun h => by omega
            refine ev_if (fun _ => ?_) fun h => by omega
            refine ev_if (fun _ => ?_) fun h => by omega
            refine ev_if (fun _ => ?_) fun h => by omega
            rw [rdE hlt, rdE (show j < l.length by omega)]
            refine ev_if (fun he => ev_now ?_) fun he => ?_
            · refine (Bool.eq_false_iff.2 fun hv => ?_).symm
              exact ((validD_iff l).1 hv).2.2 j i hlt (by omega) (ba_toList.1 he)
            · rw [wr (n := (j : Int) + 1) (by omega)]
              have := ih' (j + 1) (by omega) (by omega) (fun a h ha => by
                rcases Nat.lt_or_ge a j with h1 | h1
                · exact hn a h h1
                · obtain rfl : a = j := by omega
                  exact fun e => he (ba_toList.2 e))
              exact_mod_cast this
        exact_mod_cast inner i 0 rfl (by omega) (fun a h ha => by omega)
      · refine (Bool.eq_false_iff.2 fun hv => ?_).symm
        exact hpi (((validD_iff l).1 hv).1 i hlt)
  exact_mod_cast key l.length 0 rfl (by omega) (fun a h ha => by omega) (fun a b hb hab h => by omega)
theorem opens_eq (c : Int) : vinculumref26_opens.f c = some (opB c) := by
  unfold vinculumref26_opens.f opB
  by_cases h1 : c = 2
  · simp [h1]
  by_cases h2 : c = 1
  · simp [h2]
  by_cases h3 : c = 3
  · simp [h3]
  by_cases h4 : c = 4
  · simp [h4]
  simp [h1, h2, h3, h4]
theorem closes_eq (c : Int) : vinculumref26_closes.f c = some (clB c) := by
  unfold vinculumref26_closes.f clB
  by_cases h1 : c = 3
  · simp [h1]
  by_cases h2 : c = 5
  · simp [h2]
  simp [h1, h2]
theorem rRow_l : ∀ (rest : List Int) (out : List Int), out.length + rest.length ≤ 1000000 → Ev (fun k => vinculumref26_Row.l0 k (out ++ rest) out.length) (finP (rest.foldl stepP out)) := by
  intro rest
  induction rest with
  | nil =>
    intro out hl
    rw [List.append_nil, List.foldl_nil]
    refine Ev.step (fun k => by rw [vinculumref26_Row.l0]) ?_
    refine ev_if (fun h => by omega) fun _ => ?_
    unfold finP lastI
    rw [wr (n := (out.length : Int) - 1) (by omega)]
    refine ev_if (fun h => ?_) fun h => ev_now (by rw [if_neg (by omega)])
    refine ev_if (fun _ => ?_) fun h => by omega
    refine ev_if (fun _ => ?_) fun h => by omega
    refine ev_if (fun h2 => ev_now ?_) fun h2 => ev_now ?_
    · rw [if_pos ⟨by omega, h2⟩, show ((out.length : Int) - 1).toNat = out.length - 1 by omega]
    · rw [if_neg (fun e => h2 e.2)]
  | cons c rest ih =>
    intro out hl
    rw [List.length_cons] at hl
    rw [List.foldl_cons]
    have hlen : ((out ++ c :: rest).length : Int) = out.length + rest.length + 1 := by simp; omega
    have nxt : ∀ o2 : List Int, o2.length = out.length + 1 → Ev (fun k => vinculumref26_Row.l0 k (o2 ++ rest) ((out.length : Int) + 1)) (finP (rest.foldl stepP o2)) := fun o2 h2 => by
      have := ih o2 (by omega)
      rw [h2] at this
      exact_mod_cast this
    have h1 : 0 < out.length → rd (out ++ c :: rest) ((out.length : Int) - 1) = lastI out := fun h => by
      unfold lastI
      rw [rd_app _ _ _ (by omega) (by omega)]
    have jf : Ev (fun k => vinculumref26_Row.j1 k (out ++ c :: rest) out.length false) (finP (rest.foldl stepP (stepF out c))) := by
      refine Ev.step (fun k => by rw [vinculumref26_Row.j1]) ?_
      refine ev_if (fun h => by cases h) fun _ => ?_
      refine ev_if (fun _ => ?_) fun h => by omega
      refine ev_if (fun _ => ?_) fun h => by omega
      rw [rd_mid, closes_eq, wr (n := (out.length : Int) + 1) (by omega), wr (n := (out.length : Int) - 1) (by omega)]
      have plain : Ev (fun k => vinculumref26_Row.l0 k (out ++ c :: rest) ((out.length : Int) + 1)) (finP (rest.foldl stepP (out ++ [c]))) := by
        have := nxt (out ++ [c]) (by simp)
        simpa using this
      simp only [Option.bind_some]
      unfold stepF
      refine ev_if (fun hb => ?_) fun hb => ?_
      · refine ev_if (fun h0 => ?_) fun h0 => ?_
        · refine ev_if (fun _ => ?_) fun h => by omega
          refine ev_if (fun _ => ?_) fun h => by omega
          rw [h1 (by omega)]
          refine ev_if (fun h2 => ?_) fun h2 => ?_
          · rw [if_pos ⟨hb, by omega, h2⟩]
            have := nxt (out.set (out.length - 1) 0 ++ [c]) (by simp)
            rw [show ((out.length : Int) - 1).toNat = out.length - 1 by omega, List.set_append_left _ _ (by omega)]
            simpa using this
          · rw [if_neg (fun e => h2 e.2.2)]; exact plain
        · rw [if_neg (fun e => by omega)]; exact plain
      · rw [if_neg (fun e => hb e.1)]; exact plain
    have jt : Ev (fun k => vinculumref26_Row.j1 k (out ++ c :: rest) out.length true) (finP (rest.foldl stepP (out ++ [0]))) := by
      refine Ev.step (fun k => by rw [vinculumref26_Row.j1]) ?_
      refine ev_if (fun _ => ?_) fun h => absurd rfl h
      refine ev_if (fun _ => ?_) fun h => by omega
      refine ev_if (fun _ => ?_) fun h => by omega
      rw [wr (n := (out.length : Int) + 1) (by omega)]
      have := nxt (out ++ [0]) (by simp)
      rw [show ((out.length : Int)).toNat = out.length by omega, show (out ++ c :: rest).set out.length 0 = out ++ 0 :: rest by simp]
      simpa using this
    refine Ev.step (fun k => by rw [vinculumref26_Row.l0]) ?_
    refine ev_if (fun _ => ?_) fun h => by omega
    refine ev_if (fun _ => ?_) fun h => by omega
    rw [rd_mid, wr (n := (out.length : Int) - 1) (by omega)]
    unfold stepP
    refine ev_if (fun h2 => ?_) fun h2 => ?_
    · rw [if_pos h2]
      refine ev_if (fun h0 => ?_) fun h0 => ?_
      · rw [if_pos (.inl (by omega))]; exact jt
      · refine ev_if (fun _ => ?_) fun h => by omega
        refine ev_if (fun _ => ?_) fun h => by omega
        rw [h1 (by omega), opens_eq]
        simp only [Option.bind_some]
        cases hb : opB (lastI out) with
        | true => rw [if_pos (.inr rfl)]; exact jt
        | false =>
          rw [if_neg (fun e => e.elim (fun h => by omega) fun h => by cases h)]
          have e : stepF out c = out ++ [c] := by
            unfold stepF
            rw [if_neg (fun e => by have := e.1; rw [h2] at this; cases this)]
          rw [← e]; exact jf
    · rw [if_neg h2]; exact jf
theorem rRow_ev (vs : List Int) (hl : vs.length ≤ 1000000) : Ev (fun k => vinculumref26_Row.f k vs) (clsR vs) := by
  unfold vinculumref26_Row.f
  simp only [Option.bind_some, List.nil_append, List.length_nil, Nat.zero_add]
  refine ev_if (fun _ => ?_) fun h => by omega
  have := rRow_l vs [] (by simpa using hl)
  simpa [clsR] using this
theorem rCls_l (d : List S75) (hd : d.length ≤ 1000000) (items : List S48) (hi : items.length ≤ 1000000) : ∀ (m i : Nat) (acc : List Int), items.length - i = m → i ≤ items.length → acc.length = i → Ev (fun k => vinculumref26_Classes.l0 k d items acc i) (clsR (acc ++ (items.drop i).map (classV d)), 0) := by
  intro m
  induction m with
  | zero =>
    intro i acc h1 h2 h3
    rw [List.drop_eq_nil_of_le (by omega), List.map_nil, List.append_nil]
    refine Ev.step (fun k => by rw [vinculumref26_Classes.l0]) ?_
    refine ev_if (fun h => by omega) fun _ => ?_
    exact ev_bind (rRow_ev acc (by omega)) (Ev.now _)
  | succ m ih =>
    intro i acc h1 h2 h3
    refine Ev.step (fun k => by rw [vinculumref26_Classes.l0]) ?_
    refine ev_if (fun _ => ?_) fun h => by omega
    refine ev_if (fun _ => ?_) fun h => by omega
    rw [rdT_at items i (by omega)]
    refine ev_bind (rClass_ev d hd _ items[i] (Nat.le_refl _)) ?_
    refine ev_if (fun _ => ?_) fun h => by omega
    rw [wr (n := (i : Int) + 1) (by omega), List.drop_eq_getElem_cons (show i < items.length by omega), List.map_cons]
    have := ih (i + 1) (acc ++ [classV d items[i]]) (by omega) (by omega) (by simp; omega)
    rw [List.append_assoc, List.singleton_append] at this
    exact_mod_cast this
theorem rItems_ev (items : List S48) (h : OkL OkNode items) (hc : cnt (rowN items) ≤ 1000000) : Ev (fun k => vinculumref09_ValidItems.f k items) (validB (rowN items)) := by
  unfold vinculumref09_ValidItems.f vinculumref09_ToRow.f
  simp only [Option.bind_some]
  exact ev_bind (rValid_ev (rowN items) (rowN_ok h) hc) (Ev.now _)
theorem rClasses_ev (d : List S75) (items : List S48) (hd : d.length ≤ 1000000) (ho : ∀ x ∈ d, OkEntry x) (h : OkL OkNode items) (hc : cnt (rowN items) ≤ 1000000) : Ev (fun k => vinculumref26_Classes.f k d items) (clsB d items) := by
  have jt : Ev (fun k => vinculumref26_Classes.j0 k d items true) (([] : List Int), (1 : Int)) := Ev.step (fun k => by rw [vinculumref26_Classes.j0]) (ev_if (fun _ => Ev.now _) fun h => absurd rfl h)
  have hi := len_cnt items
  have jf : Ev (fun k => vinculumref26_Classes.j0 k d items false) (clsR (items.map (classV d)), (0 : Int)) := by
    refine Ev.step (fun k => by rw [vinculumref26_Classes.j0]) ?_
    refine ev_if (fun h => by cases h) fun _ => ?_
    have := rCls_l d hd items (by omega) items.length 0 [] (by simp) (by simp) rfl
    simpa using this
  unfold vinculumref26_Classes.f clsB
  refine ev_bind (rValid08_ev d hd ho) ?_
  refine ev_if (fun hv => ?_) fun hv => ?_
  · rw [hv, Bool.true_and]
    refine ev_bind (rItems_ev items h hc) ?_
    cases hb : validB (rowN items) with
    | true => rw [if_pos rfl]; exact jf
    | false => rw [if_neg (by simp)]; exact jt
  · rw [Bool.not_eq_true] at hv
    rw [hv, Bool.false_and, if_neg (by simp)]; exact jt
end Go.Proofs.YthdppkmmfjaiaaaGreatDoor.G.Pure
namespace Go.Proofs.YthdppkmmfjaiaaaGreatDoor.G.Pure
open Go.Proofs.YthdppkmmfjaiaaaGreatDoorW.PrintWords Go.RowKit
set_option linter.unusedVariables false
set_option linter.unusedSimpArgs false
structure Good (out : List Int) : Prop where
  before : ∀ (i : Nat) (h : i + 1 < out.length), out[i + 1] = 2 → opB (out[i]'(by omega)) = false
  behind : ∀ (i : Nat) (h : i + 1 < out.length), out[i]'(by omega) = 2 → out[i + 1] ≠ 2 ∧ clB out[i + 1] = false
  first : ∀ h : 0 < out.length, out[0] ≠ 2
end Go.Proofs.YthdppkmmfjaiaaaGreatDoor.G.Pure
namespace Go.Proofs.YthdppkmmfjaiaaaGreatDoor.G
open Go.RowKit Go.Proofs.YthdppkmmfjaiaaaGreatDoorW.PrintWords Go.Proofs.YthdppkmmfjaiaaaGreatDoorW.PrintLast Go.Proofs.YthdppkmmfjaiaaaGreatDoorW.PrintMore
attribute [local go_sem] max2_int min2_int max_two min_two max_three min_three max_four min_four
set_option linter.unusedVariables false
set_option linter.unusedSimpArgs false
def vinculumref08_group.l0 : Nat → Int → Bool → Bool → List ByteArray → List (S75) → Int → Option ((List (S75)))
  | 0, _, _, _, _, _, _ => none
  | k + 1, x0, x1, x2, x3, x9, x10 => if x10 < (x3.length : Int) then (if 0 ≤ x10 then (if x9.length < 4398046511104 then (vinculumref08_group.l0 k x0 x1 x2 x3 (x9 ++ [(⟨rdOf ByteArray.empty x3 x10, x0, x1, x2⟩ : S75)]) (wrap64 (x10 + 1))) else (none)) else (none)) else (some x9)
def vinculumref08_group.f (k : Nat) (a0 : Int) (a1 : Bool) (a2 : Bool) (l3 : List ByteArray) : Option ((List (S75))) := vinculumref08_group.l0 k a0 a1 a2 l3 ([] : List (S75)) 0
theorem vinculumref08_group.mono_l : ∀ k, (∀ y0 y1 y2 y3 y4 y5, LeO (vinculumref08_group.l0 k y0 y1 y2 y3 y4 y5) (vinculumref08_group.l0 (k + 1) y0 y1 y2 y3 y4 y5))
  | 0 => fun _ _ _ _ _ _ r h => by simp [vinculumref08_group.l0] at h
  | k + 1 => by
    have ih0 := vinculumref08_group.mono_l k
    · intro y0 y1 y2 y3 y4 y5
      unfold vinculumref08_group.l0
      repeat' first
      | (with_reducible exact ih0 _ _ _ _ _ _)
      | (with_reducible exact LeO.refl _)
      | (with_reducible exact LeO.none _)
      | (with_reducible refine LeO.ite ?_ ?_)
      | (with_reducible refine LeO.bind ?_ (fun _ => ?_))
      | exact ih0 _ _ _ _ _ _
      | exact LeO.none _
      | refine LeO.ite ?_ ?_
      | refine LeO.bind ?_ (fun _ => ?_)
theorem vinculumref08_group.mono : ∀ a0 a1 a2 a3 k, LeO (vinculumref08_group.f k a0 a1 a2 a3) (vinculumref08_group.f (k + 1) a0 a1 a2 a3) := by
  intro a0 a1 a2 a3 k
  have ih0 := vinculumref08_group.mono_l k
  unfold vinculumref08_group.f
  repeat' first
      | (with_reducible exact ih0 _ _ _ _ _ _)
      | (with_reducible exact LeO.refl _)
      | (with_reducible exact LeO.none _)
      | (with_reducible refine LeO.ite ?_ ?_)
      | (with_reducible refine LeO.bind ?_ (fun _ => ?_))
      | exact ih0 _ _ _ _ _ _
      | exact LeO.none _
      | refine LeO.ite ?_ ?_
      | refine LeO.bind ?_ (fun _ => ?_)
set_option maxHeartbeats 8000000 in
set_option maxRecDepth 100000 in
theorem vinculumref08_group.calls (k : Nat) (a0 : Int) (a1 : Bool) (a2 : Bool) (A3 : Option Addr) (c3 : Nat) (l3 : List ByteArray) (r : List (S75)) (w : World) (hr3 : Kd.C Kd.string w A3 l3.length l3) (hc3 : l3.length ≤ c3) (h : vinculumref08_group.f k a0 a1 a2 l3 = some r) :
    Calls Tryz.prog 32 #[.int .i64 a0, .bool a1, .bool a2, .slice A3 l3.length c3] w fun e w' => ∃ v0_ : Value, e = .returned (v0_) ∧ Kd.R k75 75 w' w.heap.size (fun _ => True) v0_ r ∧ Below w.heap.size w w' := by
  have hu75 := Tryz.underlying75
  have HR3 := Aside0.mk hr3
  have HC3 := Aside0.mk hc3
  clear hr3 hc3
  have HB := Aside0.mk (Below.refl w.heap.size w)
  have H : (vinculumref08_group.l0 k a0 a1 a2 l3 ([] : List (S75)) 0) = some r := h
  clear h
  have H' := Aside0.mk H
  clear H
  go_enter Tryz.func32, Tryz.ntmps32
  go_wp2
  go_loopg [9, 10] k (fun kq v9 v10 w' => ∃ (x9_1 : List (S75)) (x10_1 : Int), v10 = .int .i64 x10_1 ∧ Aside0 (vinculumref08_group.l0 kq a0 a1 a2 l3 x9_1 x10_1 = some r) ∧ Aside0 (kq ≤ k) ∧ Aside0 (Kd.R k75 75 w' w.heap.size (fun _ => True) v9 x9_1) ∧ Aside0 (Below w.heap.size w w'))
  case atStart => exact ⟨(([] : List (S75))), (0), (by first | rfl | (simp; done) | (simp [*]; done)), H', ⟨Nat.le_refl _⟩, ⟨by first | exact Kd.R_nil _ _ _ _ _ | exact Kd.N_nil _ _ _ _ _ | exact Kd.V_nil _ _ _ _ _ | exact Kd.Q_nil _ _ _ _ _ | exact Kd.S_nil _ _ _ _ _⟩, ⟨by repeat (first | (with_reducible first | exact HB.out | apply below_alloc | apply pw_below_drewN | apply below_drew1) | exact HB.out)⟩⟩
  case round =>
    clear H'
    try clear p2
    try clear c3
    obtain ⟨x9_1, x10_1, rfl, HA, HK1, HO_9, HB⟩ := hrel
    cases gk with
    | zero => exact absurd HA.out (by simp [vinculumref08_group.l0])
    | succ k1 =>
      have H := HA.out
      clear HA
      simp only [vinculumref08_group.l0] at H
      by_cases c5 : x10_1 < (l3.length : Int)
      · rw [if_pos c5] at H
        have c5b0 : decide (x10_1 < (l3.length : Int)) = true := decide_eq_true c5
        clear c5
        by_cases c6 : 0 ≤ x10_1
        · rw [if_pos c6] at H
          have c6b0 : decide (0 ≤ x10_1) = true := decide_eq_true c6
          clear c6
          by_cases c7 : x9_1.length < 4398046511104
          · rw [if_pos c7] at H
            have LMc7 := Aside0.mk c7
            clear c7
            obtain ⟨y176, hy176⟩ : ∃ y_ : List (S75), y_ = (x9_1 ++ [(⟨rdOf ByteArray.empty l3 x10_1, a0, a1, a2⟩ : S75)]) := ⟨_, rfl⟩
            replace H : (vinculumref08_group.l0 k1 a0 a1 a2 l3 y176 (wrap64 (x10_1 + 1))) = some r := by first | (rw [hy176]; with_reducible exact H) | (have H2_ := (Option.bind_some _ _).symm.trans H; rw [hy176]; with_reducible exact H2_) | (have H2_ := (Option.bind_some _ _).symm.trans H; with_reducible exact H2_) | with_reducible exact H | (rw [hy176]; exact H) | exact H
            have Ny176 := Aside0.mk hy176
            clear hy176
            have H' := Aside0.mk H
            clear H
            have p175 : 0 ≤ (x10_1 : Int) := of_decide_eq_true (by first | (with_reducible assumption) | assumption)
            have q175 : x10_1 < (l3.length : Int) := of_decide_eq_true (by first | (with_reducible assumption) | assumption)
            obtain ⟨ad175, e175, hx175_0⟩ := Kd.at_string HR3.out x10_1 p175 q175
            cases e175
            replace hx175_0 := (HB.out.cell (World.block_lt_of_cell? w _ hx175_0)).trans hx175_0
            replace p175 := eq_true p175
            replace q175 := eq_true q175
            go_wp2_with (first | ((with_reducible refine gate_builtin (b := .append) (xs := #[.tmp 17, .tmp 26]) rfl ?_); at_builtin; refine Kd.R_append k75 (w0 := w) w.heap.size rfl (.tmp 17) (.tmp 26) 22 75 (.agg #[(.string ⟨#[]⟩), (.int .i64 0), (.bool false), (.bool false)]) 32 rfl Tryz.underlying22 info75 rfl (by decide) (by omega) u9 x9_1 (⟨rdOf ByteArray.empty l3 x10_1, a0, a1, a2⟩ : S75) [.string (rdOf ByteArray.empty l3 x10_1), .int .i64 a0, .bool a1, .bool a2] (fun _ => True) (fun _ => False) rfl rfl ?aP (fun _ hk => hk.elim) ?aF ?aO ?aB ?aS ?aL ?_; (case aP => exact k75_mkM _ _ _ (⟨rdOf ByteArray.empty l3 x10_1, a0, a1, a2⟩ : S75)); (case aB => exact (by repeat (first | (with_reducible first | exact HB.out | apply below_alloc | apply pw_below_drewN | apply below_drew1) | exact HB.out))); (case aF => exact (fun _ _ => trivial)); (case aO => exact (by (with_reducible repeat (first | apply Kd.R_alloc | apply Kd.R_drewN | apply Kd.R_drew)); exact HO_9.out)); (case aS => exact (below_size (by repeat (first | (with_reducible first | exact HB.out | apply below_alloc | apply pw_below_drewN | apply below_drew1) | exact HB.out)))); (case aL => have := LMc7.out; omega); intro v177 w8 ho hb hg hat; rw [← Ny176.out] at ho; have n0_ := Aside0.mk (hb); have n1_ := Aside0.mk (ho); clear HB; clear HO_9; have HB := n0_; have HO178 := n1_; clear n0_ n1_; clear ho hb hg hat))
            go_roundg k1
            case measure => have := HK1.out; omega
            case rel => exact ⟨(y176), (wrap64 (x10_1 + 1)), (by first | rfl | (simp; done) | (simp [*]; done)), H', ⟨by have := HK1.out; omega⟩, ⟨by (with_reducible repeat (first | apply Kd.R_alloc | apply Kd.R_drewN | apply Kd.R_drew)); exact HO178.out⟩, ⟨by repeat (first | (with_reducible first | exact HB.out | apply below_alloc | apply pw_below_drewN | apply below_drew1) | exact HB.out)⟩⟩
          · rw [if_neg c7] at H
            exact absurd H (by simp)
        · rw [if_neg c6] at H
          exact absurd H (by simp)
      · rw [if_neg c5] at H
        have c5b0 : decide (x10_1 < (l3.length : Int)) = false := decide_eq_false c5
        clear c5
        obtain rfl := Option.some.inj H
        go_wp2
        go_ret
        exact ⟨_, by first | rfl | (simp [errW_none, errW_some] <;> rfl) | (simp [*, errW_none, errW_some] <;> rfl), by (with_reducible repeat (first | apply Kd.R_alloc | apply Kd.R_drewN | apply Kd.R_drew)); exact HO_9.out, by repeat (first | (with_reducible first | exact HB.out | apply below_alloc | apply pw_below_drewN | apply below_drew1) | exact HB.out)⟩
end Go.Proofs.YthdppkmmfjaiaaaGreatDoor.G
