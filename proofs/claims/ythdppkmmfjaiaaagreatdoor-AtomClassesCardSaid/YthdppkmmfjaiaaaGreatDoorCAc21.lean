-- Written by pack2.py, a program of this session: this session's texts and those that the kit's printer wrote for this claim, pruned to what the claims use.
import Derived.Test.YthdppkmmfjaiaaaGreatDoorCAc2
import Derived.Test.YthdppkmmfjaiaaaGreatDoorCAc20
namespace Go.Proofs.YthdppkmmfjaiaaaGreatDoor.G
open Go.RowKit Go.Proofs.YthdppkmmfjaiaaaGreatDoorW.PrintWords Go.Proofs.YthdppkmmfjaiaaaGreatDoorW.PrintLast Go.Proofs.YthdppkmmfjaiaaaGreatDoorW.PrintMore
attribute [local go_sem] max2_int min2_int max_two min_two max_three min_three max_four min_four
set_option linter.unusedVariables false
set_option linter.unusedSimpArgs false
mutual
def vinculumref26_Row.l0 : Nat → List Int → Int → Option (List Int)
  | 0, _, _ => none
  | k + 1, x3, x4 => if x4 < (x3.length : Int) then (if 0 ≤ x4 then (if (rd x3 x4) = 2 then (if x4 = 0 then (vinculumref26_Row.j1 k x3 x4 true) else (if 0 ≤ (wrap64 (x4 - 1)) then (if (wrap64 (x4 - 1)) < (x3.length : Int) then ((vinculumref26_opens.f (rd x3 (wrap64 (x4 - 1)))).bind fun t361 => (vinculumref26_Row.j1 k x3 x4 t361)) else (none)) else (none))) else (vinculumref26_Row.j1 k x3 x4 false)) else (none)) else (if (wrap64 ((x3.length : Int) - 1)) ≥ 0 then (if 0 ≤ (wrap64 ((x3.length : Int) - 1)) then (if (wrap64 ((x3.length : Int) - 1)) < (x3.length : Int) then (if (rd x3 (wrap64 ((x3.length : Int) - 1))) = 2 then (some (x3.set ((wrap64 ((x3.length : Int) - 1)) : Int).toNat 0)) else (some x3)) else (none)) else (none)) else (some x3))
def vinculumref26_Row.j1 : Nat → List Int → Int → Bool → Option (List Int)
  | 0, _, _, _ => none
  | k + 1, x3, x4, x31 => if x31 = true then (if 0 ≤ x4 then (if x4 < (x3.length : Int) then (vinculumref26_Row.l0 k (x3.set (x4 : Int).toNat 0) (wrap64 (x4 + 1))) else (none)) else (none)) else (if 0 ≤ x4 then (if x4 < (x3.length : Int) then ((vinculumref26_closes.f (rd x3 x4)).bind fun t364 => (if t364 = true then (if x4 > 0 then (if 0 ≤ (wrap64 (x4 - 1)) then (if (wrap64 (x4 - 1)) < (x3.length : Int) then (if (rd x3 (wrap64 (x4 - 1))) = 2 then (vinculumref26_Row.l0 k (x3.set ((wrap64 (x4 - 1)) : Int).toNat 0) (wrap64 (x4 + 1))) else (vinculumref26_Row.l0 k x3 (wrap64 (x4 + 1)))) else (none)) else (none)) else (vinculumref26_Row.l0 k x3 (wrap64 (x4 + 1)))) else (vinculumref26_Row.l0 k x3 (wrap64 (x4 + 1))))) else (none)) else (none))
end
def vinculumref26_Row.f (k : Nat) (l0 : List Int) : Option (List Int) := (some (([] : List Int) : List Int)).bind fun y351 => (if y351.length + l0.length < 17592186044416 then (vinculumref26_Row.l0 k (y351 ++ l0) 0) else (none))
set_option maxHeartbeats 8000000 in
set_option maxRecDepth 100000 in
theorem vinculumref26_Row.calls (k : Nat) (A0 : Option Addr) (c0 : Nat) (l0 : List Int) (r : List Int) (w : World) (hr0 : Kd.C (Kd.int .i64) w A0 l0.length l0) (hc0 : l0.length ≤ c0) (h : vinculumref26_Row.f k l0 = some r) :
    Calls Tryz.prog 26 #[.slice A0 l0.length c0] w fun e w' => ∃ v0_ : Value, e = .returned (v0_) ∧ Kd.R (Kd.int .i64) 3 w' w.heap.size (fun _ => True) v0_ r ∧ Below w.heap.size w w' := by
  have HR0 := Aside0.mk hr0
  have HC0 := Aside0.mk hc0
  clear hr0 hc0
  have HB := Aside0.mk (Below.refl w.heap.size w)
  have H : ((some (([] : List Int) : List Int)).bind fun y351 => (if y351.length + l0.length < 17592186044416 then (vinculumref26_Row.l0 k (y351 ++ l0) 0) else (none))) = some r := h
  clear h
  obtain ⟨y351, hy351⟩ : ∃ y_ : List Int, y_ = (([] : List Int)) := ⟨_, rfl⟩
  replace H : (if y351.length + l0.length < 17592186044416 then (vinculumref26_Row.l0 k (y351 ++ l0) 0) else (none)) = some r := by first | (rw [hy351]; with_reducible exact H) | (have H2_ := (Option.bind_some _ _).symm.trans H; rw [hy351]; with_reducible exact H2_) | (have H2_ := (Option.bind_some _ _).symm.trans H; with_reducible exact H2_) | with_reducible exact H | (rw [hy351]; exact H) | exact H
  have Ny351 := Aside0.mk hy351
  clear hy351
  by_cases c2 : y351.length + l0.length < 17592186044416
  · rw [if_pos c2] at H
    have LMc2 := Aside0.mk c2
    clear c2
    obtain ⟨y354, hy354⟩ : ∃ y_ : List Int, y_ = (y351 ++ l0) := ⟨_, rfl⟩
    replace H : (vinculumref26_Row.l0 k y354 0) = some r := by first | (rw [hy354]; with_reducible exact H) | (have H2_ := (Option.bind_some _ _).symm.trans H; rw [hy354]; with_reducible exact H2_) | (have H2_ := (Option.bind_some _ _).symm.trans H; with_reducible exact H2_) | with_reducible exact H | (rw [hy354]; exact H) | exact H
    have Ny354 := Aside0.mk hy354
    clear hy354
    have H' := Aside0.mk H
    clear H
    go_enter Tryz.func26, Tryz.ntmps26
    go_wp2_with (first | ((with_reducible refine gate_dst (N := 6) rfl ?_); refine Kd.R_lit (Kd.int .i64) _ 3 ?hg (N := 6) ?hd (xs := ([] : List Int)) (inner := []) (ok := fun _ => True) (okp := fun _ => True) ?hr ?hp (fun _ hk => hk) trivial (Below.refl _ _) (Nat.le_refl _) (by simp) ?_; (case hd => rfl); (case hg => rfl); (case hr => first | (go_simp; done) | (go_simp; rfl)); (case hp => exact (Reps.none _ _)); intro v352 w3 ho4 hb hg_ hnew_; clear hg_ hnew_; (first | rw [← Ny351.out] at ho4 | (simp only [Int.reduceToNat] at ho4; rw [← Ny351.out] at ho4)); have n0_ := Aside0.mk (Kd.R_lower ho4 (below_size (by repeat (first | (with_reducible first | exact HB.out | apply below_alloc | apply pw_below_drewN | apply below_drew1) | exact HB.out)))); have n1_ := Aside0.mk (below_step (by repeat (first | (with_reducible first | exact HB.out | apply below_alloc | apply pw_below_drewN | apply below_drew1) | exact HB.out)) hb); clear HB; have HO353 := n0_; have HB := n1_; clear n0_ n1_; clear hb ho4) | ((with_reducible refine gate_builtin (b := .append) (xs := #[.tmp 6, .tmp 7]) rfl ?_); at_builtin; refine Kd.R_append_rows (Kd.int .i64) (w0 := w) w.heap.size rfl (.tmp 6) (.tmp 7) 26 3 (.int .i64 0) 8 rfl Tryz.underlying26 info3 rfl (by decide) (by omega) v352 y351 l0 _ _ _ (fun _ => True) (fun _ => False) rfl rfl ?aO ?aR (fun _ _ h => h) (fun _ h => h.elim) ?aF ?aB ?aS ?aL ?_; (case aR => repeat (first | exact (Kd.C_below HR0.out HB.out) | (with_reducible refine Kd.C_alloc ?_ _) | (with_reducible refine Kd.C_drewN ?_ _) | (with_reducible refine Kd.C_drew ?_))); (case aB => exact (by repeat (first | (with_reducible first | exact HB.out | apply below_alloc | apply pw_below_drewN | apply below_drew1) | exact HB.out))); (case aF => exact (fun _ _ => trivial)); (case aO => exact (by (with_reducible repeat (first | apply Kd.R_alloc | apply Kd.R_drewN | apply Kd.R_drew)); exact HO353.out)); (case aS => exact (below_size (by repeat (first | (with_reducible first | exact HB.out | apply below_alloc | apply pw_below_drewN | apply below_drew1) | exact HB.out)))); (case aL => have := LMc2.out; omega); intro v355 w5 ho hb hg hat; rw [← Ny354.out] at ho; have n0_ := Aside0.mk (hb); have n1_ := Aside0.mk (ho); clear HB; clear HO353; have HB := n0_; have HO356 := n1_; clear n0_ n1_; clear ho hb hg hat))
    go_loopg [4] k (fun kq v4 w' => ∃ (x3_1 : List Int) (x4_1 : Int), v4 = .int .i64 x4_1 ∧ Aside0 (vinculumref26_Row.l0 kq x3_1 x4_1 = some r) ∧ Aside0 (kq ≤ k) ∧ Aside0 (Kd.R (Kd.int .i64) 3 w' w.heap.size (fun _ => True) v355 x3_1) ∧ Aside0 (Below w.heap.size w w'))
    case atStart => exact ⟨(y354), (0), (by first | rfl | (simp; done) | (simp [*]; done)), H', ⟨Nat.le_refl _⟩, ⟨by (with_reducible repeat (first | apply Kd.R_alloc | apply Kd.R_drewN | apply Kd.R_drew)); exact HO356.out⟩, ⟨by repeat (first | (with_reducible first | exact HB.out | apply below_alloc | apply pw_below_drewN | apply below_drew1) | exact HB.out)⟩⟩
    case round =>
      clear H'
      try clear c2
      try clear p2
      obtain ⟨x3_1, x4_1, rfl, HA, HK1, HO_3, HB⟩ := hrel
      cases gk with
      | zero => exact absurd HA.out (by simp [vinculumref26_Row.l0])
      | succ k1 =>
        have H := HA.out
        clear HA
        simp only [vinculumref26_Row.l0] at H
        by_cases c6 : x4_1 < (x3_1.length : Int)
        · rw [if_pos c6] at H
          have c6b0 : decide (x4_1 < (x3_1.length : Int)) = true := decide_eq_true c6
          clear c6
          have HC7 := Aside0.mk H
          clear H
          obtain ⟨Ao8, co8, eo8⟩ := Kd.R_slice HO_3.out
          subst eo8
          go_upto_region 5 with (fail)
          go_cut [31] (fun v31 wc => ∃ (kq : Nat) (x31_6 : Bool), v31 = .bool x31_6 ∧ Aside0 (vinculumref26_Row.j1 kq x3_1 x4_1 x31_6 = some r) ∧ Aside0 (kq ≤ k1) ∧ Aside0 (Kd.R (Kd.int .i64) 3 wc w.heap.size (fun _ => True) (.slice Ao8 x3_1.length co8) x3_1) ∧ Aside0 (Below w.heap.size w wc))
          case first =>
            have H := HC7.out
            clear HC7
            by_cases c9 : 0 ≤ x4_1
            · rw [if_pos c9] at H
              have c9b0 : decide (0 ≤ x4_1) = true := decide_eq_true c9
              clear c9
              (first | rw [c9b0] | (simp only [i64_w, i32_w]; rw [c9b0]) | skip)
              by_cases c10 : (rd x3_1 x4_1) = 2
              · rw [if_pos c10] at H
                have c10b0 : ((rd x3_1 x4_1) == 2) = true := beq_iff_eq.mpr c10
                have c10b1 : ((rd x3_1 x4_1) != 2) = false := bne_eq_false_iff_eq.mpr c10
                clear c10
                by_cases c11 : x4_1 = 0
                · rw [if_pos c11] at H
                  have c11b0 : (x4_1 == 0) = true := beq_iff_eq.mpr c11
                  have c11b1 : (x4_1 != 0) = false := bne_eq_false_iff_eq.mpr c11
                  clear c11
                  have H' := Aside0.mk H
                  clear H
                  have p359 : 0 ≤ (x4_1 : Int) := of_decide_eq_true (by first | (with_reducible assumption) | assumption)
                  have q359 : x4_1 < (x3_1.length : Int) := of_decide_eq_true (by first | (with_reducible assumption) | assumption)
                  obtain ⟨ad359, e359, hx359_0⟩ := Kd.at_int (Kd.R_reads' HO_3.out).2.2 x4_1 p359 q359
                  cases e359
                  replace p359 := eq_true p359
                  replace q359 := eq_true q359
                  go_wp2
                  go_meet
                  case rel => exact ⟨_, (true), (by first | rfl | (simp; done) | (simp [*]; done)), H', ⟨by have := HK1.out; first | omega | exact Nat.le_refl _⟩, ⟨by (with_reducible repeat (first | apply Kd.R_alloc | apply Kd.R_drewN | apply Kd.R_drew)); exact HO_3.out⟩, ⟨by repeat (first | (with_reducible first | exact HB.out | apply below_alloc | apply pw_below_drewN | apply below_drew1) | exact HB.out)⟩⟩
                · rw [if_neg c11] at H
                  have c11b0 : (x4_1 == 0) = false := beq_eq_false_iff_ne.mpr c11
                  have c11b1 : (x4_1 != 0) = true := bne_iff_ne.mpr c11
                  obtain ⟨ji12, hji12⟩ : ∃ j_ : Int, (wrap64 (x4_1 - 1)) = j_ := ⟨_, rfl⟩
                  replace H : (if 0 ≤ (ji12) then (if (ji12) < (x3_1.length : Int) then ((vinculumref26_opens.f (rd x3_1 (ji12))).bind fun t361 => (vinculumref26_Row.j1 k1 x3_1 x4_1 t361)) else (none)) else (none)) = some r := by first | (rw [hji12] at H; exact H) | (simp only [hji12] at H ⊢; exact H)
                  have hji12w : (IntKind.i64.wrap (x4_1 - 1)) = ji12 := (i64_w _).trans hji12
                  by_cases c13 : 0 ≤ (ji12)
                  · rw [if_pos c13] at H
                    have c13b0 : decide (0 ≤ (ji12)) = true := decide_eq_true c13
                    clear c13
                    by_cases c14 : (ji12) < (x3_1.length : Int)
                    · rw [if_pos c14] at H
                      have c14b0 : decide ((ji12) < (x3_1.length : Int)) = true := decide_eq_true c14
                      clear c14
                      replace H := Option.bind_eq_some_iff.mp H
                      obtain ⟨t361, A150, H⟩ := H
                      replace H : (vinculumref26_Row.j1 k1 x3_1 x4_1 t361) = some r := H
                      have A15 := Aside0.mk A150
                      clear A150
                      have H' := Aside0.mk H
                      clear H
                      have p359 : 0 ≤ (x4_1 : Int) := of_decide_eq_true (by first | (with_reducible assumption) | assumption)
                      have q359 : x4_1 < (x3_1.length : Int) := of_decide_eq_true (by first | (with_reducible assumption) | assumption)
                      obtain ⟨ad359, e359, hx359_0⟩ := Kd.at_int (Kd.R_reads' HO_3.out).2.2 x4_1 p359 q359
                      cases e359
                      replace p359 := eq_true p359
                      replace q359 := eq_true q359
                      have p360 : 0 ≤ ((ji12) : Int) := of_decide_eq_true (by first | (with_reducible assumption) | assumption)
                      have q360 : (ji12) < (x3_1.length : Int) := of_decide_eq_true (by first | (with_reducible assumption) | assumption)
                      obtain ⟨ad360, e360, hx360_0⟩ := Kd.at_int (Kd.R_reads' HO_3.out).2.2 (ji12) p360 q360
                      obtain rfl : ad359 = ad360 := (by injection e360)
                      replace p360 := eq_true p360
                      replace q360 := eq_true q360
                      go_wp2_with (first | (go_at_call 45; (with_reducible refine (vinculumref26_opens.calls (rd x3_1 (ji12)) t361 _ A15.out).mono ?_); rintro e w' ⟨rfl, ⟨nd, rfl⟩⟩))
                      go_meet
                      case rel => exact ⟨_, (t361), (by first | rfl | (simp; done) | (simp [*]; done)), H', ⟨by have := HK1.out; first | omega | exact Nat.le_refl _⟩, ⟨by (with_reducible repeat (first | apply Kd.R_alloc | apply Kd.R_drewN | apply Kd.R_drew)); exact HO_3.out⟩, ⟨by repeat (first | (with_reducible first | exact HB.out | apply below_alloc | apply pw_below_drewN | apply below_drew1) | exact HB.out)⟩⟩
                    · rw [if_neg c14] at H
                      exact absurd H (by simp)
                  · rw [if_neg c13] at H
                    exact absurd H (by simp)
              · rw [if_neg c10] at H
                have c10b0 : ((rd x3_1 x4_1) == 2) = false := beq_eq_false_iff_ne.mpr c10
                have c10b1 : ((rd x3_1 x4_1) != 2) = true := bne_iff_ne.mpr c10
                have H' := Aside0.mk H
                clear H
                have p359 : 0 ≤ (x4_1 : Int) := of_decide_eq_true (by first | (with_reducible assumption) | assumption)
                have q359 : x4_1 < (x3_1.length : Int) := of_decide_eq_true (by first | (with_reducible assumption) | assumption)
                obtain ⟨ad359, e359, hx359_0⟩ := Kd.at_int (Kd.R_reads' HO_3.out).2.2 x4_1 p359 q359
                cases e359
                replace p359 := eq_true p359
                replace q359 := eq_true q359
                go_wp2
                go_meet
                case rel => exact ⟨_, (false), (by first | rfl | (simp; done) | (simp [*]; done)), H', ⟨by have := HK1.out; first | omega | exact Nat.le_refl _⟩, ⟨by (with_reducible repeat (first | apply Kd.R_alloc | apply Kd.R_drewN | apply Kd.R_drew)); exact HO_3.out⟩, ⟨by repeat (first | (with_reducible first | exact HB.out | apply below_alloc | apply pw_below_drewN | apply below_drew1) | exact HB.out)⟩⟩
            · rw [if_neg c9] at H
              exact absurd H (by simp)
          case rest =>
            clear HC7
            try clear c1
            try clear c2
            try clear p2
            try clear p3
            try clear q3
            try clear hx3
            try clear c6
            try clear c6b0
            try clear p6
            try clear c9
            try clear c9b0
            try clear c10
            try clear c10b0
            try clear c10b1
            try clear c11
            try clear c11b0
            try clear c11b1
            try clear c13
            try clear c13b0
            try clear c14
            try clear c14b0
            try clear hx359_0
            try clear hx360_0
            try clear p2
            try clear p359
            try clear p360
            try clear q359
            try clear q360
            obtain ⟨kq, x31_6, rfl, HA, HJ6, HO_3, HB⟩ := hcut
            cases kq with
            | zero => exact absurd HA.out (by simp [vinculumref26_Row.j1])
            | succ kj6 =>
              have H := HA.out
              clear HA
              simp only [vinculumref26_Row.j1] at H
              by_cases c16 : x31_6 = true
              · subst c16
                have H1 : (if 0 ≤ x4_1 then (if x4_1 < (x3_1.length : Int) then (vinculumref26_Row.l0 kj6 (x3_1.set (x4_1 : Int).toNat 0) (wrap64 (x4_1 + 1))) else (none)) else (none)) = some r := by rw [if_pos rfl] at H; exact H
                clear H
                have H := H1
                clear H1
                by_cases c17 : 0 ≤ x4_1
                · rw [if_pos c17] at H
                  have c17b0 : decide (0 ≤ x4_1) = true := decide_eq_true c17
                  clear c17
                  by_cases c18 : x4_1 < (x3_1.length : Int)
                  · rw [if_pos c18] at H
                    have c18b0 : decide (x4_1 < (x3_1.length : Int)) = true := decide_eq_true c18
                    clear c18
                    obtain ⟨y362, hy362⟩ : ∃ y_ : List Int, y_ = (x3_1.set (x4_1 : Int).toNat 0) := ⟨_, rfl⟩
                    replace H : (vinculumref26_Row.l0 kj6 y362 (wrap64 (x4_1 + 1))) = some r := by first | (rw [hy362]; with_reducible exact H) | (have H2_ := (Option.bind_some _ _).symm.trans H; rw [hy362]; with_reducible exact H2_) | (have H2_ := (Option.bind_some _ _).symm.trans H; with_reducible exact H2_) | with_reducible exact H | (rw [hy362]; exact H) | exact H
                    have Ny362 := Aside0.mk hy362
                    clear hy362
                    have H' := Aside0.mk H
                    clear H
                    have p19 : 0 ≤ (x4_1 : Int) := of_decide_eq_true (by first | (with_reducible assumption) | assumption)
                    have q19 : (x4_1 : Int) < ((x3_1.length : Int) : Int) := of_decide_eq_true (by first | (with_reducible assumption) | assumption)
                    obtain ⟨go19, co19, eo19, gb19, gl19, cl19, HG19⟩ := Kd.R_form HO_3.out (by omega)
                    (first | cases eo19 | (injection eo19 with ea_ en_ ec_; (first | subst ea_ | (injection ea_ with ea_; subst ea_)); subst ec_; clear en_))
                    have GB19 := Aside0.mk gb19
                    have GG19 := Aside0.mk HG19
                    clear gb19 gl19 HG19
                    obtain ⟨hx19_0, hf19_0⟩ := Kd.R_celln 0 HO_3.out (x4_1 : Int) p19 q19
                    replace p19 := eq_true p19
                    replace q19 := eq_true q19
                    have HP20 := Kd.R_putg HO_3.out (x4_1 : Int) 0
                    go_wp2_with (first | ((with_reducible refine gate_store (t := 3) (p := 34) rfl ?_); refine store_event (t := 3) (p := 34) (v := ?vo_w21) (w1 := (wc.setCell ⟨go19, (x4_1 : Int).toNat, none⟩ (.int .i64 0))) ?hg ?ho ?hn ?hr ?_; (case ho => rfl); (case hg => rfl); (case hn => rfl); (case hr => first | (go_simp; done) | (go_simp; rfl)); intro w21 hw; have hg : wc.grownBy w21 (some go19) := (by rw [hw]; exact HP20.2); have hp_ : Kd.R (Kd.int .i64) 3 w21 w.heap.size (fun _ => True) (.slice (some ⟨go19, 0, none⟩) x3_1.length co8) y362 := (by rw [hw, Ny362.out]; exact HP20.1); clear HP20; have n0_ := Aside0.mk (hp_); have n1_ := Aside0.mk ((by rw [hw]; exact below_set (HB.out) GB19.out : Below w.heap.size w w21)); clear HO_3; clear HB; have HO_3 := n0_; have HB := n1_; clear n0_ n1_; clear hg hw hp_))
                    go_roundg kj6
                    case measure => have := HK1.out; have := HJ6.out; omega
                    case rel => exact ⟨(y362), (wrap64 (x4_1 + 1)), (by first | rfl | (simp; done) | (simp [*]; done)), H', ⟨by have := HK1.out; have := HJ6.out; omega⟩, ⟨by (with_reducible repeat (first | apply Kd.R_alloc | apply Kd.R_drewN | apply Kd.R_drew)); exact HO_3.out⟩, ⟨by repeat (first | (with_reducible first | exact HB.out | apply below_alloc | apply pw_below_drewN | apply below_drew1) | exact HB.out)⟩⟩
                  · rw [if_neg c18] at H
                    exact absurd H (by simp)
                · rw [if_neg c17] at H
                  exact absurd H (by simp)
              · replace c16 := Bool.eq_false_iff.mpr c16
                subst c16
                have H1 : (if 0 ≤ x4_1 then (if x4_1 < (x3_1.length : Int) then ((vinculumref26_closes.f (rd x3_1 x4_1)).bind fun t364 => (if t364 = true then (if x4_1 > 0 then (if 0 ≤ (wrap64 (x4_1 - 1)) then (if (wrap64 (x4_1 - 1)) < (x3_1.length : Int) then (if (rd x3_1 (wrap64 (x4_1 - 1))) = 2 then (vinculumref26_Row.l0 kj6 (x3_1.set ((wrap64 (x4_1 - 1)) : Int).toNat 0) (wrap64 (x4_1 + 1))) else (vinculumref26_Row.l0 kj6 x3_1 (wrap64 (x4_1 + 1)))) else (none)) else (none)) else (vinculumref26_Row.l0 kj6 x3_1 (wrap64 (x4_1 + 1)))) else (vinculumref26_Row.l0 kj6 x3_1 (wrap64 (x4_1 + 1))))) else (none)) else (none)) = some r := by rw [if_neg (show ¬ (false = true) by decide)] at H; exact H
                clear H
                have H := H1
                clear H1
                by_cases c22 : 0 ≤ x4_1
                · rw [if_pos c22] at H
                  have c22b0 : decide (0 ≤ x4_1) = true := decide_eq_true c22
                  clear c22
                  by_cases c23 : x4_1 < (x3_1.length : Int)
                  · rw [if_pos c23] at H
                    have c23b0 : decide (x4_1 < (x3_1.length : Int)) = true := decide_eq_true c23
                    clear c23
                    replace H := Option.bind_eq_some_iff.mp H
                    obtain ⟨t364, A240, H⟩ := H
                    replace H : (if t364 = true then (if x4_1 > 0 then (if 0 ≤ (wrap64 (x4_1 - 1)) then (if (wrap64 (x4_1 - 1)) < (x3_1.length : Int) then (if (rd x3_1 (wrap64 (x4_1 - 1))) = 2 then (vinculumref26_Row.l0 kj6 (x3_1.set ((wrap64 (x4_1 - 1)) : Int).toNat 0) (wrap64 (x4_1 + 1))) else (vinculumref26_Row.l0 kj6 x3_1 (wrap64 (x4_1 + 1)))) else (none)) else (none)) else (vinculumref26_Row.l0 kj6 x3_1 (wrap64 (x4_1 + 1)))) else (vinculumref26_Row.l0 kj6 x3_1 (wrap64 (x4_1 + 1)))) = some r := H
                    have A24 := Aside0.mk A240
                    clear A240
                    by_cases c25 : t364 = true
                    · subst c25
                      have H1 : (if x4_1 > 0 then (if 0 ≤ (wrap64 (x4_1 - 1)) then (if (wrap64 (x4_1 - 1)) < (x3_1.length : Int) then (if (rd x3_1 (wrap64 (x4_1 - 1))) = 2 then (vinculumref26_Row.l0 kj6 (x3_1.set ((wrap64 (x4_1 - 1)) : Int).toNat 0) (wrap64 (x4_1 + 1))) else (vinculumref26_Row.l0 kj6 x3_1 (wrap64 (x4_1 + 1)))) else (none)) else (none)) else (vinculumref26_Row.l0 kj6 x3_1 (wrap64 (x4_1 + 1)))) = some r := by rw [if_pos rfl] at H; exact H
                      clear H
                      have H := H1
                      clear H1
                      by_cases c26 : x4_1 > 0
                      · rw [if_pos c26] at H
                        have c26b0 : decide (0 < x4_1) = true := decide_eq_true c26
                        clear c26
                        obtain ⟨ji27, hji27⟩ : ∃ j_ : Int, (wrap64 (x4_1 - 1)) = j_ := ⟨_, rfl⟩
                        replace H : (if 0 ≤ (ji27) then (if (ji27) < (x3_1.length : Int) then (if (rd x3_1 (ji27)) = 2 then (vinculumref26_Row.l0 kj6 (x3_1.set ((ji27) : Int).toNat 0) (wrap64 (x4_1 + 1))) else (vinculumref26_Row.l0 kj6 x3_1 (wrap64 (x4_1 + 1)))) else (none)) else (none)) = some r := by first | (rw [hji27] at H; exact H) | (simp only [hji27] at H ⊢; exact H)
                        (try rw [hji27] at A24)
                        have hji27w : (IntKind.i64.wrap (x4_1 - 1)) = ji27 := (i64_w _).trans hji27
                        by_cases c28 : 0 ≤ (ji27)
                        · rw [if_pos c28] at H
                          have c28b0 : decide (0 ≤ (ji27)) = true := decide_eq_true c28
                          clear c28
                          by_cases c29 : (ji27) < (x3_1.length : Int)
                          · rw [if_pos c29] at H
                            have c29b0 : decide ((ji27) < (x3_1.length : Int)) = true := decide_eq_true c29
                            clear c29
                            by_cases c30 : (rd x3_1 (ji27)) = 2
                            · rw [if_pos c30] at H
                              have c30b0 : ((rd x3_1 (ji27)) == 2) = true := beq_iff_eq.mpr c30
                              have c30b1 : ((rd x3_1 (ji27)) != 2) = false := bne_eq_false_iff_eq.mpr c30
                              clear c30
                              obtain ⟨y366, hy366⟩ : ∃ y_ : List Int, y_ = (x3_1.set ((ji27) : Int).toNat 0) := ⟨_, rfl⟩
                              replace H : (vinculumref26_Row.l0 kj6 y366 (wrap64 (x4_1 + 1))) = some r := by first | (rw [hy366]; with_reducible exact H) | (have H2_ := (Option.bind_some _ _).symm.trans H; rw [hy366]; with_reducible exact H2_) | (have H2_ := (Option.bind_some _ _).symm.trans H; with_reducible exact H2_) | with_reducible exact H | (rw [hy366]; exact H) | exact H
                              have Ny366 := Aside0.mk hy366
                              clear hy366
                              have H' := Aside0.mk H
                              clear H
                              have p363 : 0 ≤ (x4_1 : Int) := of_decide_eq_true (by first | (with_reducible assumption) | assumption)
                              have q363 : x4_1 < (x3_1.length : Int) := of_decide_eq_true (by first | (with_reducible assumption) | assumption)
                              obtain ⟨ad363, e363, hx363_0⟩ := Kd.at_int (Kd.R_reads' HO_3.out).2.2 x4_1 p363 q363
                              cases e363
                              replace p363 := eq_true p363
                              replace q363 := eq_true q363
                              go_wp2_with (first | ((with_reducible refine gate_callee (f := 46) rfl ?_); refine goesL_ (some 39) rfl rfl Tryz.func46 (by kernel_rfl) rfl #[.int .i64 (rd x3_1 x4_1)] rfl (by (try simp only [List.map_toArray, List.map_cons, List.map_nil]); first | done | rfl | (simp only [List.length_drop, List.length_take]; rfl)) ?_; (with_reducible refine (vinculumref26_closes.calls (rd x3_1 x4_1) true _ A24.out).mono ?_); rintro e w' ⟨rfl, ⟨nd, rfl⟩⟩; refine ⟨_, rfl, ?_⟩; (try (rw [drewN_self wc]; generalize hq_ : World.drewN wc _ = wc; have n0_ : Aside0 (Kd.R (Kd.int .i64) 3 wc w.heap.size (fun _ => True) (.slice (some ad363) x3_1.length co8) x3_1) := ⟨by rw [← hq_]; exact (by (with_reducible repeat (first | apply Kd.R_alloc | apply Kd.R_drewN | apply Kd.R_drew)); exact HO_3.out)⟩; have n1_ : Aside0 (Below w.heap.size w wc) := ⟨by rw [← hq_]; exact (by repeat (first | (with_reducible first | exact HB.out | apply below_alloc | apply pw_below_drewN | apply below_drew1) | exact HB.out))⟩; clear HO_3 HB hq_; have HO_3 := n0_; have HB := n1_; clear n0_ n1_)); have p365 : 0 ≤ ((ji27) : Int) := of_decide_eq_true (by first | (with_reducible assumption) | assumption); have q365 : (ji27) < (x3_1.length : Int) := of_decide_eq_true (by first | (with_reducible assumption) | assumption); obtain ⟨ad365, e365, hx365_0⟩ := Kd.at_int (Kd.R_reads' HO_3.out).2.2 (ji27) p365 q365; obtain rfl : ad363 = ad365 := (by injection e365); replace p365 := eq_true p365; replace q365 := eq_true q365; have p31 : 0 ≤ ((ji27) : Int) := of_decide_eq_true (by first | (with_reducible assumption) | assumption); have q31 : ((ji27) : Int) < ((x3_1.length : Int) : Int) := of_decide_eq_true (by first | (with_reducible assumption) | assumption); obtain ⟨go31, co31, eo31, gb31, gl31, cl31, HG31⟩ := Kd.R_form HO_3.out (by omega); (first | cases eo31 | (injection eo31 with ea_ en_ ec_; (first | subst ea_ | (injection ea_ with ea_; subst ea_)); subst ec_; clear en_)); have GB31 := Aside0.mk gb31; have GG31 := Aside0.mk HG31; clear gb31 gl31 HG31; (first | simp only [add_plain] at hx363_0 | skip); (first | simp only [add_plain] at hx365_0 | skip); obtain ⟨hx31_0, hf31_0⟩ := Kd.R_celln 0 HO_3.out ((ji27) : Int) p31 q31; replace p31 := eq_true p31; replace q31 := eq_true q31; obtain ⟨hy32_, hz32_⟩ := Kd.R_celln 0 HO_3.out ((ji27) : Int) (of_decide_eq_true (by first | (with_reducible assumption) | assumption)) (of_decide_eq_true (by first | (with_reducible assumption) | assumption)); have HP32 := Kd.R_putg HO_3.out ((ji27) : Int) 0) | ((with_reducible refine gate_store (t := 3) (p := 55) rfl ?_); refine store_event (t := 3) (p := 55) (v := ?vo_w33) (w1 := (wc.setCell ⟨go31, ((ji27) : Int).toNat, none⟩ (.int .i64 0))) ?hg ?ho ?hn ?hr ?_; (case ho => rfl); (case hg => rfl); (case hn => rfl); (case hr => first | (go_simp; done) | (go_simp; rfl)); intro w33 hw; have hg : wc.grownBy w33 (some go31) := (by rw [hw]; exact HP32.2); have hp_ : Kd.R (Kd.int .i64) 3 w33 w.heap.size (fun _ => True) (.slice (some ⟨go31, 0, none⟩) x3_1.length co8) y366 := (by rw [hw, Ny366.out]; exact HP32.1); clear HP32; have n0_ := Aside0.mk (hp_); have n1_ := Aside0.mk ((by rw [hw]; exact below_set (HB.out) GB31.out : Below w.heap.size w w33)); clear HO_3; clear HB; have HO_3 := n0_; have HB := n1_; clear n0_ n1_; clear hg hw hp_))
                              go_roundg kj6
                              case measure => have := HK1.out; have := HJ6.out; omega
                              case rel => exact ⟨(y366), (wrap64 (x4_1 + 1)), (by first | rfl | (simp; done) | (simp [*]; done)), H', ⟨by have := HK1.out; have := HJ6.out; omega⟩, ⟨by (with_reducible repeat (first | apply Kd.R_alloc | apply Kd.R_drewN | apply Kd.R_drew)); exact HO_3.out⟩, ⟨by repeat (first | (with_reducible first | exact HB.out | apply below_alloc | apply pw_below_drewN | apply below_drew1) | exact HB.out)⟩⟩
                            · rw [if_neg c30] at H
                              have c30b0 : ((rd x3_1 (ji27)) == 2) = false := beq_eq_false_iff_ne.mpr c30
                              have c30b1 : ((rd x3_1 (ji27)) != 2) = true := bne_iff_ne.mpr c30
                              have H' := Aside0.mk H
                              clear H
                              have p363 : 0 ≤ (x4_1 : Int) := of_decide_eq_true (by first | (with_reducible assumption) | assumption)
                              have q363 : x4_1 < (x3_1.length : Int) := of_decide_eq_true (by first | (with_reducible assumption) | assumption)
                              obtain ⟨ad363, e363, hx363_0⟩ := Kd.at_int (Kd.R_reads' HO_3.out).2.2 x4_1 p363 q363
                              cases e363
                              replace p363 := eq_true p363
                              replace q363 := eq_true q363
                              go_wp2_with (first | ((with_reducible refine gate_callee (f := 46) rfl ?_); refine goesL_ (some 39) rfl rfl Tryz.func46 (by kernel_rfl) rfl #[.int .i64 (rd x3_1 x4_1)] rfl (by (try simp only [List.map_toArray, List.map_cons, List.map_nil]); first | done | rfl | (simp only [List.length_drop, List.length_take]; rfl)) ?_; (with_reducible refine (vinculumref26_closes.calls (rd x3_1 x4_1) true _ A24.out).mono ?_); rintro e w' ⟨rfl, ⟨nd, rfl⟩⟩; refine ⟨_, rfl, ?_⟩; have p365 : 0 ≤ ((ji27) : Int) := of_decide_eq_true (by first | (with_reducible assumption) | assumption); have q365 : (ji27) < (x3_1.length : Int) := of_decide_eq_true (by first | (with_reducible assumption) | assumption); obtain ⟨ad365, e365, hx365_0⟩ := Kd.at_int (Kd.R_reads' HO_3.out).2.2 (ji27) p365 q365; obtain rfl : ad363 = ad365 := (by injection e365); replace p365 := eq_true p365; replace q365 := eq_true q365))
                              go_roundg kj6
                              case measure => have := HK1.out; have := HJ6.out; omega
                              case rel => exact ⟨(x3_1), (wrap64 (x4_1 + 1)), (by first | rfl | (simp; done) | (simp [*]; done)), H', ⟨by have := HK1.out; have := HJ6.out; omega⟩, ⟨by (with_reducible repeat (first | apply Kd.R_alloc | apply Kd.R_drewN | apply Kd.R_drew)); exact HO_3.out⟩, ⟨by repeat (first | (with_reducible first | exact HB.out | apply below_alloc | apply pw_below_drewN | apply below_drew1) | exact HB.out)⟩⟩
                          · rw [if_neg c29] at H
                            exact absurd H (by simp)
                        · rw [if_neg c28] at H
                          exact absurd H (by simp)
                      · rw [if_neg c26] at H
                        have c26b0 : decide (0 < x4_1) = false := decide_eq_false c26
                        clear c26
                        have H' := Aside0.mk H
                        clear H
                        have p363 : 0 ≤ (x4_1 : Int) := of_decide_eq_true (by first | (with_reducible assumption) | assumption)
                        have q363 : x4_1 < (x3_1.length : Int) := of_decide_eq_true (by first | (with_reducible assumption) | assumption)
                        obtain ⟨ad363, e363, hx363_0⟩ := Kd.at_int (Kd.R_reads' HO_3.out).2.2 x4_1 p363 q363
                        cases e363
                        replace p363 := eq_true p363
                        replace q363 := eq_true q363
                        go_wp2_with (first | ((with_reducible refine gate_callee (f := 46) rfl ?_); refine goesL_ (some 39) rfl rfl Tryz.func46 (by kernel_rfl) rfl #[.int .i64 (rd x3_1 x4_1)] rfl (by (try simp only [List.map_toArray, List.map_cons, List.map_nil]); first | done | rfl | (simp only [List.length_drop, List.length_take]; rfl)) ?_; (with_reducible refine (vinculumref26_closes.calls (rd x3_1 x4_1) true _ A24.out).mono ?_); rintro e w' ⟨rfl, ⟨nd, rfl⟩⟩; refine ⟨_, rfl, ?_⟩))
                        go_roundg kj6
                        case measure => have := HK1.out; have := HJ6.out; omega
                        case rel => exact ⟨(x3_1), (wrap64 (x4_1 + 1)), (by first | rfl | (simp; done) | (simp [*]; done)), H', ⟨by have := HK1.out; have := HJ6.out; omega⟩, ⟨by (with_reducible repeat (first | apply Kd.R_alloc | apply Kd.R_drewN | apply Kd.R_drew)); exact HO_3.out⟩, ⟨by repeat (first | (with_reducible first | exact HB.out | apply below_alloc | apply pw_below_drewN | apply below_drew1) | exact HB.out)⟩⟩
                    · replace c25 := Bool.eq_false_iff.mpr c25
                      subst c25
                      have H1 : (vinculumref26_Row.l0 kj6 x3_1 (wrap64 (x4_1 + 1))) = some r := by rw [if_neg (show ¬ (false = true) by decide)] at H; exact H
                      clear H
                      have H := H1
                      clear H1
                      have H' := Aside0.mk H
                      clear H
                      have p363 : 0 ≤ (x4_1 : Int) := of_decide_eq_true (by first | (with_reducible assumption) | assumption)
                      have q363 : x4_1 < (x3_1.length : Int) := of_decide_eq_true (by first | (with_reducible assumption) | assumption)
                      obtain ⟨ad363, e363, hx363_0⟩ := Kd.at_int (Kd.R_reads' HO_3.out).2.2 x4_1 p363 q363
                      cases e363
                      replace p363 := eq_true p363
                      replace q363 := eq_true q363
                      go_wp2_with (first | ((with_reducible refine gate_callee (f := 46) rfl ?_); refine goesL_ (some 39) rfl rfl Tryz.func46 (by kernel_rfl) rfl #[.int .i64 (rd x3_1 x4_1)] rfl (by (try simp only [List.map_toArray, List.map_cons, List.map_nil]); first | done | rfl | (simp only [List.length_drop, List.length_take]; rfl)) ?_; (with_reducible refine (vinculumref26_closes.calls (rd x3_1 x4_1) false _ A24.out).mono ?_); rintro e w' ⟨rfl, ⟨nd, rfl⟩⟩; refine ⟨_, rfl, ?_⟩))
                      go_roundg kj6
                      case measure => have := HK1.out; have := HJ6.out; omega
                      case rel => exact ⟨(x3_1), (wrap64 (x4_1 + 1)), (by first | rfl | (simp; done) | (simp [*]; done)), H', ⟨by have := HK1.out; have := HJ6.out; omega⟩, ⟨by (with_reducible repeat (first | apply Kd.R_alloc | apply Kd.R_drewN | apply Kd.R_drew)); exact HO_3.out⟩, ⟨by repeat (first | (with_reducible first | exact HB.out | apply below_alloc | apply pw_below_drewN | apply below_drew1) | exact HB.out)⟩⟩
                  · rw [if_neg c23] at H
                    exact absurd H (by simp)
                · rw [if_neg c22] at H
                  exact absurd H (by simp)
        · rw [if_neg c6] at H
          have c6b0 : decide (x4_1 < (x3_1.length : Int)) = false := decide_eq_false c6
          clear c6
          by_cases c34 : (wrap64 ((x3_1.length : Int) - 1)) ≥ 0
          · rw [if_pos c34] at H
            have c34b0 : decide (0 ≤ (wrap64 ((x3_1.length : Int) - 1))) = true := decide_eq_true c34
            clear c34
            obtain ⟨ji35, hji35⟩ : ∃ j_ : Int, (wrap64 ((x3_1.length : Int) - 1)) = j_ := ⟨_, rfl⟩
            replace H : (if 0 ≤ (ji35) then (if (ji35) < (x3_1.length : Int) then (if (rd x3_1 (ji35)) = 2 then (some (x3_1.set ((ji35) : Int).toNat 0)) else (some x3_1)) else (none)) else (none)) = some r := by first | (rw [hji35] at H; exact H) | (simp only [hji35] at H ⊢; exact H)
            (try rw [hji35] at c34b0)
            have hji35w : (IntKind.i64.wrap ((x3_1.length : Int) - 1)) = ji35 := (i64_w _).trans hji35
            by_cases c36 : 0 ≤ (ji35)
            · rw [if_pos c36] at H
              have c36b0 : decide (0 ≤ (ji35)) = true := decide_eq_true c36
              clear c36
              by_cases c37 : (ji35) < (x3_1.length : Int)
              · rw [if_pos c37] at H
                have c37b0 : decide ((ji35) < (x3_1.length : Int)) = true := decide_eq_true c37
                clear c37
                by_cases c38 : (rd x3_1 (ji35)) = 2
                · rw [if_pos c38] at H
                  have c38b0 : ((rd x3_1 (ji35)) == 2) = true := beq_iff_eq.mpr c38
                  have c38b1 : ((rd x3_1 (ji35)) != 2) = false := bne_eq_false_iff_eq.mpr c38
                  clear c38
                  obtain ⟨y358, hy358⟩ : ∃ y_ : List Int, y_ = (x3_1.set ((ji35) : Int).toNat 0) := ⟨_, rfl⟩
                  replace H : (some y358) = some r := by first | (rw [hy358]; with_reducible exact H) | (have H2_ := (Option.bind_some _ _).symm.trans H; rw [hy358]; with_reducible exact H2_) | (have H2_ := (Option.bind_some _ _).symm.trans H; with_reducible exact H2_) | with_reducible exact H | (rw [hy358]; exact H) | exact H
                  have Ny358 := Aside0.mk hy358
                  clear hy358
                  obtain rfl := Option.some.inj H
                  obtain ⟨Ao40, co40, eo40⟩ := Kd.R_slice HO_3.out
                  subst eo40
                  have p357 : 0 ≤ ((ji35) : Int) := of_decide_eq_true (by first | (with_reducible assumption) | assumption)
                  have q357 : (ji35) < (x3_1.length : Int) := of_decide_eq_true (by first | (with_reducible assumption) | assumption)
                  obtain ⟨ad357, e357, hx357_0⟩ := Kd.at_int (Kd.R_reads' HO_3.out).2.2 (ji35) p357 q357
                  cases e357
                  replace p357 := eq_true p357
                  replace q357 := eq_true q357
                  have p39 : 0 ≤ ((ji35) : Int) := of_decide_eq_true (by first | (with_reducible assumption) | assumption)
                  have q39 : ((ji35) : Int) < ((x3_1.length : Int) : Int) := of_decide_eq_true (by first | (with_reducible assumption) | assumption)
                  obtain ⟨go39, co39, eo39, gb39, gl39, cl39, HG39⟩ := Kd.R_form HO_3.out (by omega)
                  (first | cases eo39 | (injection eo39 with ea_ en_ ec_; (first | subst ea_ | (injection ea_ with ea_; subst ea_)); subst ec_; clear en_))
                  have GB39 := Aside0.mk gb39
                  have GG39 := Aside0.mk HG39
                  clear gb39 gl39 HG39
                  (first | simp only [add_plain] at hx357_0 | skip)
                  obtain ⟨hx39_0, hf39_0⟩ := Kd.R_celln 0 HO_3.out ((ji35) : Int) p39 q39
                  replace p39 := eq_true p39
                  replace q39 := eq_true q39
                  have HP41 := Kd.R_putg HO_3.out ((ji35) : Int) 0
                  go_wp2_with (first | ((with_reducible refine gate_store (t := 3) (p := 70) rfl ?_); refine store_event (t := 3) (p := 70) (v := ?vo_w42) (w1 := (wr.setCell ⟨go39, ((ji35) : Int).toNat, none⟩ (.int .i64 0))) ?hg ?ho ?hn ?hr ?_; (case ho => rfl); (case hg => rfl); (case hn => rfl); (case hr => first | (go_simp; done) | (go_simp; rfl)); intro w42 hw; have hg : wr.grownBy w42 (some go39) := (by rw [hw]; exact HP41.2); have hp_ : Kd.R (Kd.int .i64) 3 w42 w.heap.size (fun _ => True) (.slice (some ⟨go39, 0, none⟩) x3_1.length co40) y358 := (by rw [hw, Ny358.out]; exact HP41.1); clear HP41; have n0_ := Aside0.mk (hp_); have n1_ := Aside0.mk ((by rw [hw]; exact below_set (HB.out) GB39.out : Below w.heap.size w w42)); clear HO_3; clear HB; have HO_3 := n0_; have HB := n1_; clear n0_ n1_; clear hg hw hp_))
                  go_ret
                  exact ⟨_, by first | rfl | (simp [errW_none, errW_some] <;> rfl) | (simp only [← hji35]; first | rfl | (simp [errW_none, errW_some] <;> rfl)) | (simp [*, errW_none, errW_some] <;> rfl), by (with_reducible repeat (first | apply Kd.R_alloc | apply Kd.R_drewN | apply Kd.R_drew)); exact HO_3.out, by repeat (first | (with_reducible first | exact HB.out | apply below_alloc | apply pw_below_drewN | apply below_drew1) | exact HB.out)⟩
                · rw [if_neg c38] at H
                  have c38b0 : ((rd x3_1 (ji35)) == 2) = false := beq_eq_false_iff_ne.mpr c38
                  have c38b1 : ((rd x3_1 (ji35)) != 2) = true := bne_iff_ne.mpr c38
                  obtain rfl := Option.some.inj H
                  obtain ⟨Ao43, co43, eo43⟩ := Kd.R_slice HO_3.out
                  subst eo43
                  have p357 : 0 ≤ ((ji35) : Int) := of_decide_eq_true (by first | (with_reducible assumption) | assumption)
                  have q357 : (ji35) < (x3_1.length : Int) := of_decide_eq_true (by first | (with_reducible assumption) | assumption)
                  obtain ⟨ad357, e357, hx357_0⟩ := Kd.at_int (Kd.R_reads' HO_3.out).2.2 (ji35) p357 q357
                  cases e357
                  replace p357 := eq_true p357
                  replace q357 := eq_true q357
                  go_wp2
                  go_ret
                  exact ⟨_, by first | rfl | (simp [errW_none, errW_some] <;> rfl) | (simp only [← hji35]; first | rfl | (simp [errW_none, errW_some] <;> rfl)) | (simp [*, errW_none, errW_some] <;> rfl), by (with_reducible repeat (first | apply Kd.R_alloc | apply Kd.R_drewN | apply Kd.R_drew)); exact HO_3.out, by repeat (first | (with_reducible first | exact HB.out | apply below_alloc | apply pw_below_drewN | apply below_drew1) | exact HB.out)⟩
              · rw [if_neg c37] at H
                exact absurd H (by simp)
            · rw [if_neg c36] at H
              exact absurd H (by simp)
          · rw [if_neg c34] at H
            have c34b0 : decide (0 ≤ (wrap64 ((x3_1.length : Int) - 1))) = false := decide_eq_false c34
            clear c34
            obtain rfl := Option.some.inj H
            obtain ⟨Ao44, co44, eo44⟩ := Kd.R_slice HO_3.out
            subst eo44
            go_wp2
            go_ret
            exact ⟨_, by first | rfl | (simp [errW_none, errW_some] <;> rfl) | (simp [*, errW_none, errW_some] <;> rfl), by (with_reducible repeat (first | apply Kd.R_alloc | apply Kd.R_drewN | apply Kd.R_drew)); exact HO_3.out, by repeat (first | (with_reducible first | exact HB.out | apply below_alloc | apply pw_below_drewN | apply below_drew1) | exact HB.out)⟩
  · rw [if_neg c2] at H
    exact absurd H (by simp)
end Go.Proofs.YthdppkmmfjaiaaaGreatDoor.G
