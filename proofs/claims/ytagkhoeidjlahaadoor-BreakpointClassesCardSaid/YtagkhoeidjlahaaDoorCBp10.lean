-- Written by pack2.py, a program of this session: this session's texts and those that the kit's printer wrote for this claim, pruned to what the claims use.
import Derived.Test.YtagkhoeidjlahaaDoorCBp2
import Derived.Test.YtagkhoeidjlahaaDoorCBp9
import Derived.Test.YtagkhoeidjlahaaDoorCBp8
import Derived.Lib.ConvBytes
import Derived.Maps.AppendAt
import Derived.Maps.OwnSet
namespace Go.Proofs.YtagkhoeidjlahaaDoor.G
open Go.RowKit Go.Proofs.YtagkhoeidjlahaaDoorW.PrintWords Go.Proofs.YtagkhoeidjlahaaDoorW.PrintLast Go.Proofs.YtagkhoeidjlahaaDoorW.PrintMore
attribute [local go_sem] max2_int min2_int max_two min_two max_three min_three max_four min_four
set_option linter.unusedVariables false
set_option linter.unusedSimpArgs false
mutual
def vinculumref26_Row.l0 : Nat → List Int → Int → Option (List Int)
  | 0, _, _ => none
  | k + 1, x3, x4 => if x4 < (x3.length : Int) then (if 0 ≤ x4 then (if (rd x3 x4) = 2 then (if x4 = 0 then (vinculumref26_Row.j1 k x3 x4 true) else (if 0 ≤ (wrap64 (x4 - 1)) then (if (wrap64 (x4 - 1)) < (x3.length : Int) then ((vinculumref26_opens.f (rd x3 (wrap64 (x4 - 1)))).bind fun t297 => (vinculumref26_Row.j1 k x3 x4 t297)) else (none)) else (none))) else (vinculumref26_Row.j1 k x3 x4 false)) else (none)) else (if (wrap64 ((x3.length : Int) - 1)) ≥ 0 then (if 0 ≤ (wrap64 ((x3.length : Int) - 1)) then (if (wrap64 ((x3.length : Int) - 1)) < (x3.length : Int) then (if (rd x3 (wrap64 ((x3.length : Int) - 1))) = 2 then (some (x3.set ((wrap64 ((x3.length : Int) - 1)) : Int).toNat 0)) else (some x3)) else (none)) else (none)) else (some x3))
def vinculumref26_Row.j1 : Nat → List Int → Int → Bool → Option (List Int)
  | 0, _, _, _ => none
  | k + 1, x3, x4, x31 => if x31 = true then (if 0 ≤ x4 then (if x4 < (x3.length : Int) then (vinculumref26_Row.l0 k (x3.set (x4 : Int).toNat 0) (wrap64 (x4 + 1))) else (none)) else (none)) else (if 0 ≤ x4 then (if x4 < (x3.length : Int) then ((vinculumref26_closes.f (rd x3 x4)).bind fun t300 => (if t300 = true then (if x4 > 0 then (if 0 ≤ (wrap64 (x4 - 1)) then (if (wrap64 (x4 - 1)) < (x3.length : Int) then (if (rd x3 (wrap64 (x4 - 1))) = 2 then (vinculumref26_Row.l0 k (x3.set ((wrap64 (x4 - 1)) : Int).toNat 0) (wrap64 (x4 + 1))) else (vinculumref26_Row.l0 k x3 (wrap64 (x4 + 1)))) else (none)) else (none)) else (vinculumref26_Row.l0 k x3 (wrap64 (x4 + 1)))) else (vinculumref26_Row.l0 k x3 (wrap64 (x4 + 1))))) else (none)) else (none))
end
def vinculumref26_Row.f (k : Nat) (l0 : List Int) : Option (List Int) := (some (([] : List Int) : List Int)).bind fun y287 => (if y287.length + l0.length < 17592186044416 then (vinculumref26_Row.l0 k (y287 ++ l0) 0) else (none))
set_option maxHeartbeats 8000000 in
set_option maxRecDepth 100000 in
theorem vinculumref26_Row.calls (k : Nat) (A0 : Option Addr) (c0 : Nat) (l0 : List Int) (r : List Int) (w : World) (hr0 : Kd.C (Kd.int .i64) w A0 l0.length l0) (hc0 : l0.length ≤ c0) (h : vinculumref26_Row.f k l0 = some r) :
    Calls Tryd.prog 67 #[.slice A0 l0.length c0] w fun e w' => ∃ v0_ : Value, e = .returned (v0_) ∧ Kd.R (Kd.int .i64) 3 w' w.heap.size (fun _ => True) v0_ r ∧ Below w.heap.size w w' := by
  have HR0 := Aside0.mk hr0
  have HC0 := Aside0.mk hc0
  clear hr0 hc0
  have HB := Aside0.mk (Below.refl w.heap.size w)
  have H : ((some (([] : List Int) : List Int)).bind fun y287 => (if y287.length + l0.length < 17592186044416 then (vinculumref26_Row.l0 k (y287 ++ l0) 0) else (none))) = some r := h
  clear h
  obtain ⟨y287, hy287⟩ : ∃ y_ : List Int, y_ = (([] : List Int)) := ⟨_, rfl⟩
  replace H : (if y287.length + l0.length < 17592186044416 then (vinculumref26_Row.l0 k (y287 ++ l0) 0) else (none)) = some r := by first | (rw [hy287]; with_reducible exact H) | (have H2_ := (Option.bind_some _ _).symm.trans H; rw [hy287]; with_reducible exact H2_) | (have H2_ := (Option.bind_some _ _).symm.trans H; with_reducible exact H2_) | with_reducible exact H | (rw [hy287]; exact H) | exact H
  have Ny287 := Aside0.mk hy287
  clear hy287
  by_cases c2 : y287.length + l0.length < 17592186044416
  · rw [if_pos c2] at H
    have LMc2 := Aside0.mk c2
    clear c2
    obtain ⟨y290, hy290⟩ : ∃ y_ : List Int, y_ = (y287 ++ l0) := ⟨_, rfl⟩
    replace H : (vinculumref26_Row.l0 k y290 0) = some r := by first | (rw [hy290]; with_reducible exact H) | (have H2_ := (Option.bind_some _ _).symm.trans H; rw [hy290]; with_reducible exact H2_) | (have H2_ := (Option.bind_some _ _).symm.trans H; with_reducible exact H2_) | with_reducible exact H | (rw [hy290]; exact H) | exact H
    have Ny290 := Aside0.mk hy290
    clear hy290
    have H' := Aside0.mk H
    clear H
    go_enter Tryd.func67, Tryd.ntmps67
    go_wp2_with (first | ((with_reducible refine gate_dst (N := 6) rfl ?_); refine Kd.R_lit (Kd.int .i64) _ 3 ?hg (N := 6) ?hd (xs := ([] : List Int)) (inner := []) (ok := fun _ => True) (okp := fun _ => True) ?hr ?hp (fun _ hk => hk) trivial (Below.refl _ _) (Nat.le_refl _) (by simp) ?_; (case hd => rfl); (case hg => rfl); (case hr => first | (go_simp; done) | (go_simp; rfl)); (case hp => exact (Reps.none _ _)); intro v288 w3 ho4 hb hg_ hnew_; clear hg_ hnew_; (first | rw [← Ny287.out] at ho4 | (simp only [Int.reduceToNat] at ho4; rw [← Ny287.out] at ho4)); have n0_ := Aside0.mk (Kd.R_lower ho4 (below_size (by repeat (first | (with_reducible first | exact HB.out | apply below_alloc | apply pw_below_drewN | apply below_drew1) | exact HB.out)))); have n1_ := Aside0.mk (below_step (by repeat (first | (with_reducible first | exact HB.out | apply below_alloc | apply pw_below_drewN | apply below_drew1) | exact HB.out)) hb); clear HB; have HO289 := n0_; have HB := n1_; clear n0_ n1_; clear hb ho4) | ((with_reducible refine gate_builtin (b := .append) (xs := #[.tmp 6, .tmp 7]) rfl ?_); at_builtin; refine Kd.R_append_rows (Kd.int .i64) (w0 := w) w.heap.size rfl (.tmp 6) (.tmp 7) 26 3 (.int .i64 0) 8 rfl Tryd.underlying26 info3 rfl (by decide) (by omega) v288 y287 l0 _ _ _ (fun _ => True) (fun _ => False) rfl rfl ?aO ?aR (fun _ _ h => h) (fun _ h => h.elim) ?aF ?aB ?aS ?aL ?_; (case aR => repeat (first | exact (Kd.C_below HR0.out HB.out) | (with_reducible refine Kd.C_alloc ?_ _) | (with_reducible refine Kd.C_drewN ?_ _) | (with_reducible refine Kd.C_drew ?_))); (case aB => exact (by repeat (first | (with_reducible first | exact HB.out | apply below_alloc | apply pw_below_drewN | apply below_drew1) | exact HB.out))); (case aF => exact (fun _ _ => trivial)); (case aO => exact (by (with_reducible repeat (first | apply Kd.R_alloc | apply Kd.R_drewN | apply Kd.R_drew)); exact HO289.out)); (case aS => exact (below_size (by repeat (first | (with_reducible first | exact HB.out | apply below_alloc | apply pw_below_drewN | apply below_drew1) | exact HB.out)))); (case aL => have := LMc2.out; omega); intro v291 w5 ho hb hg hat; rw [← Ny290.out] at ho; have n0_ := Aside0.mk (hb); have n1_ := Aside0.mk (ho); clear HB; clear HO289; have HB := n0_; have HO292 := n1_; clear n0_ n1_; clear ho hb hg hat))
    go_loopg [4] k (fun kq v4 w' => ∃ (x3_1 : List Int) (x4_1 : Int), v4 = .int .i64 x4_1 ∧ Aside0 (vinculumref26_Row.l0 kq x3_1 x4_1 = some r) ∧ Aside0 (kq ≤ k) ∧ Aside0 (Kd.R (Kd.int .i64) 3 w' w.heap.size (fun _ => True) v291 x3_1) ∧ Aside0 (Below w.heap.size w w'))
    case atStart => exact ⟨(y290), (0), (by first | rfl | (simp; done) | (simp [*]; done)), H', ⟨Nat.le_refl _⟩, ⟨by (with_reducible repeat (first | apply Kd.R_alloc | apply Kd.R_drewN | apply Kd.R_drew)); exact HO292.out⟩, ⟨by repeat (first | (with_reducible first | exact HB.out | apply below_alloc | apply pw_below_drewN | apply below_drew1) | exact HB.out)⟩⟩
    case round =>
      clear H'
      try clear c2
      try clear p2
      obtain ⟨x3_1, x4_1, rfl, HA, HK1, HO_3, HB⟩ := hrel
      cases gk with
      | zero => exact absurd HA.out (by simp [vinculumref26_Row.l0])
      | succ k1 =>
        have H := HA.out
        clear HA
        simp only [vinculumref26_Row.l0] at H
        by_cases c6 : x4_1 < (x3_1.length : Int)
        · rw [if_pos c6] at H
          have c6b0 : decide (x4_1 < (x3_1.length : Int)) = true := decide_eq_true c6
          clear c6
          have HC7 := Aside0.mk H
          clear H
          obtain ⟨Ao8, co8, eo8⟩ := Kd.R_slice HO_3.out
          subst eo8
          go_upto_region 5 with (fail)
          go_cut [31] (fun v31 wc => ∃ (kq : Nat) (x31_6 : Bool), v31 = .bool x31_6 ∧ Aside0 (vinculumref26_Row.j1 kq x3_1 x4_1 x31_6 = some r) ∧ Aside0 (kq ≤ k1) ∧ Aside0 (Kd.R (Kd.int .i64) 3 wc w.heap.size (fun _ => True) (.slice Ao8 x3_1.length co8) x3_1) ∧ Aside0 (Below w.heap.size w wc))
          case first =>
            have H := HC7.out
            clear HC7
            by_cases c9 : 0 ≤ x4_1
            · rw [if_pos c9] at H
              have c9b0 : decide (0 ≤ x4_1) = true := decide_eq_true c9
              clear c9
              (first | rw [c9b0] | (simp only [i64_w, i32_w]; rw [c9b0]) | skip)
              by_cases c10 : (rd x3_1 x4_1) = 2
              · rw [if_pos c10] at H
                have c10b0 : ((rd x3_1 x4_1) == 2) = true := beq_iff_eq.mpr c10
                have c10b1 : ((rd x3_1 x4_1) != 2) = false := bne_eq_false_iff_eq.mpr c10
                clear c10
                by_cases c11 : x4_1 = 0
                · rw [if_pos c11] at H
                  have c11b0 : (x4_1 == 0) = true := beq_iff_eq.mpr c11
                  have c11b1 : (x4_1 != 0) = false := bne_eq_false_iff_eq.mpr c11
                  clear c11
                  have H' := Aside0.mk H
                  clear H
                  have p295 : 0 ≤ (x4_1 : Int) := of_decide_eq_true (by first | (with_reducible assumption) | assumption)
                  have q295 : x4_1 < (x3_1.length : Int) := of_decide_eq_true (by first | (with_reducible assumption) | assumption)
                  obtain ⟨ad295, e295, hx295_0⟩ := Kd.at_int (Kd.R_reads' HO_3.out).2.2 x4_1 p295 q295
                  cases e295
                  replace p295 := eq_true p295
                  replace q295 := eq_true q295
                  go_wp2
                  go_meet
                  case rel => exact ⟨_, (true), (by first | rfl | (simp; done) | (simp [*]; done)), H', ⟨by have := HK1.out; first | omega | exact Nat.le_refl _⟩, ⟨by (with_reducible repeat (first | apply Kd.R_alloc | apply Kd.R_drewN | apply Kd.R_drew)); exact HO_3.out⟩, ⟨by repeat (first | (with_reducible first | exact HB.out | apply below_alloc | apply pw_below_drewN | apply below_drew1) | exact HB.out)⟩⟩
                · rw [if_neg c11] at H
                  have c11b0 : (x4_1 == 0) = false := beq_eq_false_iff_ne.mpr c11
                  have c11b1 : (x4_1 != 0) = true := bne_iff_ne.mpr c11
                  obtain ⟨ji12, hji12⟩ : ∃ j_ : Int, (wrap64 (x4_1 - 1)) = j_ := ⟨_, rfl⟩
                  replace H : (if 0 ≤ (ji12) then (if (ji12) < (x3_1.length : Int) then ((vinculumref26_opens.f (rd x3_1 (ji12))).bind fun t297 => (vinculumref26_Row.j1 k1 x3_1 x4_1 t297)) else (none)) else (none)) = some r := by first | (rw [hji12] at H; exact H) | (simp only [hji12] at H ⊢; exact H)
                  have hji12w : (IntKind.i64.wrap (x4_1 - 1)) = ji12 := (i64_w _).trans hji12
                  by_cases c13 : 0 ≤ (ji12)
                  · rw [if_pos c13] at H
                    have c13b0 : decide (0 ≤ (ji12)) = true := decide_eq_true c13
                    clear c13
                    by_cases c14 : (ji12) < (x3_1.length : Int)
                    · rw [if_pos c14] at H
                      have c14b0 : decide ((ji12) < (x3_1.length : Int)) = true := decide_eq_true c14
                      clear c14
                      replace H := Option.bind_eq_some_iff.mp H
                      obtain ⟨t297, A150, H⟩ := H
                      replace H : (vinculumref26_Row.j1 k1 x3_1 x4_1 t297) = some r := H
                      have A15 := Aside0.mk A150
                      clear A150
                      have H' := Aside0.mk H
                      clear H
                      have p295 : 0 ≤ (x4_1 : Int) := of_decide_eq_true (by first | (with_reducible assumption) | assumption)
                      have q295 : x4_1 < (x3_1.length : Int) := of_decide_eq_true (by first | (with_reducible assumption) | assumption)
                      obtain ⟨ad295, e295, hx295_0⟩ := Kd.at_int (Kd.R_reads' HO_3.out).2.2 x4_1 p295 q295
                      cases e295
                      replace p295 := eq_true p295
                      replace q295 := eq_true q295
                      have p296 : 0 ≤ ((ji12) : Int) := of_decide_eq_true (by first | (with_reducible assumption) | assumption)
                      have q296 : (ji12) < (x3_1.length : Int) := of_decide_eq_true (by first | (with_reducible assumption) | assumption)
                      obtain ⟨ad296, e296, hx296_0⟩ := Kd.at_int (Kd.R_reads' HO_3.out).2.2 (ji12) p296 q296
                      obtain rfl : ad295 = ad296 := (by injection e296)
                      replace p296 := eq_true p296
                      replace q296 := eq_true q296
                      go_wp2_with (first | (go_at_call 93; (with_reducible refine (vinculumref26_opens.calls (rd x3_1 (ji12)) t297 _ A15.out).mono ?_); rintro e w' ⟨rfl, ⟨nd, rfl⟩⟩))
                      go_meet
                      case rel => exact ⟨_, (t297), (by first | rfl | (simp; done) | (simp [*]; done)), H', ⟨by have := HK1.out; first | omega | exact Nat.le_refl _⟩, ⟨by (with_reducible repeat (first | apply Kd.R_alloc | apply Kd.R_drewN | apply Kd.R_drew)); exact HO_3.out⟩, ⟨by repeat (first | (with_reducible first | exact HB.out | apply below_alloc | apply pw_below_drewN | apply below_drew1) | exact HB.out)⟩⟩
                    · rw [if_neg c14] at H
                      exact absurd H (by simp)
                  · rw [if_neg c13] at H
                    exact absurd H (by simp)
              · rw [if_neg c10] at H
                have c10b0 : ((rd x3_1 x4_1) == 2) = false := beq_eq_false_iff_ne.mpr c10
                have c10b1 : ((rd x3_1 x4_1) != 2) = true := bne_iff_ne.mpr c10
                have H' := Aside0.mk H
                clear H
                have p295 : 0 ≤ (x4_1 : Int) := of_decide_eq_true (by first | (with_reducible assumption) | assumption)
                have q295 : x4_1 < (x3_1.length : Int) := of_decide_eq_true (by first | (with_reducible assumption) | assumption)
                obtain ⟨ad295, e295, hx295_0⟩ := Kd.at_int (Kd.R_reads' HO_3.out).2.2 x4_1 p295 q295
                cases e295
                replace p295 := eq_true p295
                replace q295 := eq_true q295
                go_wp2
                go_meet
                case rel => exact ⟨_, (false), (by first | rfl | (simp; done) | (simp [*]; done)), H', ⟨by have := HK1.out; first | omega | exact Nat.le_refl _⟩, ⟨by (with_reducible repeat (first | apply Kd.R_alloc | apply Kd.R_drewN | apply Kd.R_drew)); exact HO_3.out⟩, ⟨by repeat (first | (with_reducible first | exact HB.out | apply below_alloc | apply pw_below_drewN | apply below_drew1) | exact HB.out)⟩⟩
            · rw [if_neg c9] at H
              exact absurd H (by simp)
          case rest =>
            clear HC7
            try clear c1
            try clear c2
            try clear p2
            try clear q2
            try clear hx2
            try clear c6
            try clear c6b0
            try clear p6
            try clear c9
            try clear c9b0
            try clear c10
            try clear c10b0
            try clear c10b1
            try clear c11
            try clear c11b0
            try clear c11b1
            try clear c13
            try clear c13b0
            try clear c14
            try clear c14b0
            try clear hx295_0
            try clear hx296_0
            try clear p2
            try clear p295
            try clear p296
            try clear q295
            try clear q296
            obtain ⟨kq, x31_6, rfl, HA, HJ6, HO_3, HB⟩ := hcut
            cases kq with
            | zero => exact absurd HA.out (by simp [vinculumref26_Row.j1])
            | succ kj6 =>
              have H := HA.out
              clear HA
              simp only [vinculumref26_Row.j1] at H
              by_cases c16 : x31_6 = true
              · subst c16
                have H1 : (if 0 ≤ x4_1 then (if x4_1 < (x3_1.length : Int) then (vinculumref26_Row.l0 kj6 (x3_1.set (x4_1 : Int).toNat 0) (wrap64 (x4_1 + 1))) else (none)) else (none)) = some r := by rw [if_pos rfl] at H; exact H
                clear H
                have H := H1
                clear H1
                by_cases c17 : 0 ≤ x4_1
                · rw [if_pos c17] at H
                  have c17b0 : decide (0 ≤ x4_1) = true := decide_eq_true c17
                  clear c17
                  by_cases c18 : x4_1 < (x3_1.length : Int)
                  · rw [if_pos c18] at H
                    have c18b0 : decide (x4_1 < (x3_1.length : Int)) = true := decide_eq_true c18
                    clear c18
                    obtain ⟨y298, hy298⟩ : ∃ y_ : List Int, y_ = (x3_1.set (x4_1 : Int).toNat 0) := ⟨_, rfl⟩
                    replace H : (vinculumref26_Row.l0 kj6 y298 (wrap64 (x4_1 + 1))) = some r := by first | (rw [hy298]; with_reducible exact H) | (have H2_ := (Option.bind_some _ _).symm.trans H; rw [hy298]; with_reducible exact H2_) | (have H2_ := (Option.bind_some _ _).symm.trans H; with_reducible exact H2_) | with_reducible exact H | (rw [hy298]; exact H) | exact H
                    have Ny298 := Aside0.mk hy298
                    clear hy298
                    have H' := Aside0.mk H
                    clear H
                    have p19 : 0 ≤ (x4_1 : Int) := of_decide_eq_true (by first | (with_reducible assumption) | assumption)
                    have q19 : (x4_1 : Int) < ((x3_1.length : Int) : Int) := of_decide_eq_true (by first | (with_reducible assumption) | assumption)
                    obtain ⟨go19, co19, eo19, gb19, gl19, cl19, HG19⟩ := Kd.R_form HO_3.out (by omega)
                    (first | cases eo19 | (injection eo19 with ea_ en_ ec_; (first | subst ea_ | (injection ea_ with ea_; subst ea_)); subst ec_; clear en_))
                    have GB19 := Aside0.mk gb19
                    have GG19 := Aside0.mk HG19
                    clear gb19 gl19 HG19
                    obtain ⟨hx19_0, hf19_0⟩ := Kd.R_celln 0 HO_3.out (x4_1 : Int) p19 q19
                    replace p19 := eq_true p19
                    replace q19 := eq_true q19
                    have HP20 := Kd.R_putg HO_3.out (x4_1 : Int) 0
                    go_wp2_with (first | ((with_reducible refine gate_store (t := 3) (p := 34) rfl ?_); refine store_event (t := 3) (p := 34) (v := ?vo_w21) (w1 := (wc.setCell ⟨go19, (x4_1 : Int).toNat, none⟩ (.int .i64 0))) ?hg ?ho ?hn ?hr ?_; (case ho => rfl); (case hg => rfl); (case hn => rfl); (case hr => first | (go_simp; done) | (go_simp; rfl)); intro w21 hw; have hg : wc.grownBy w21 (some go19) := (by rw [hw]; exact HP20.2); have hp_ : Kd.R (Kd.int .i64) 3 w21 w.heap.size (fun _ => True) (.slice (some ⟨go19, 0, none⟩) x3_1.length co8) y298 := (by rw [hw, Ny298.out]; exact HP20.1); clear HP20; have n0_ := Aside0.mk (hp_); have n1_ := Aside0.mk ((by rw [hw]; exact below_set (HB.out) GB19.out : Below w.heap.size w w21)); clear HO_3; clear HB; have HO_3 := n0_; have HB := n1_; clear n0_ n1_; clear hg hw hp_))
                    go_roundg kj6
                    case measure => have := HK1.out; have := HJ6.out; omega
                    case rel => exact ⟨(y298), (wrap64 (x4_1 + 1)), (by first | rfl | (simp; done) | (simp [*]; done)), H', ⟨by have := HK1.out; have := HJ6.out; omega⟩, ⟨by (with_reducible repeat (first | apply Kd.R_alloc | apply Kd.R_drewN | apply Kd.R_drew)); exact HO_3.out⟩, ⟨by repeat (first | (with_reducible first | exact HB.out | apply below_alloc | apply pw_below_drewN | apply below_drew1) | exact HB.out)⟩⟩
                  · rw [if_neg c18] at H
                    exact absurd H (by simp)
                · rw [if_neg c17] at H
                  exact absurd H (by simp)
              · replace c16 := Bool.eq_false_iff.mpr c16
                subst c16
                have H1 : (if 0 ≤ x4_1 then (if x4_1 < (x3_1.length : Int) then ((vinculumref26_closes.f (rd x3_1 x4_1)).bind fun t300 => (if t300 = true then (if x4_1 > 0 then (if 0 ≤ (wrap64 (x4_1 - 1)) then (if (wrap64 (x4_1 - 1)) < (x3_1.length : Int) then (if (rd x3_1 (wrap64 (x4_1 - 1))) = 2 then (vinculumref26_Row.l0 kj6 (x3_1.set ((wrap64 (x4_1 - 1)) : Int).toNat 0) (wrap64 (x4_1 + 1))) else (vinculumref26_Row.l0 kj6 x3_1 (wrap64 (x4_1 + 1)))) else (none)) else (none)) else (vinculumref26_Row.l0 kj6 x3_1 (wrap64 (x4_1 + 1)))) else (vinculumref26_Row.l0 kj6 x3_1 (wrap64 (x4_1 + 1))))) else (none)) else (none)) = some r := by rw [if_neg (show ¬ (false = true) by decide)] at H; exact H
                clear H
                have H := H1
                clear H1
                by_cases c22 : 0 ≤ x4_1
                · rw [if_pos c22] at H
                  have c22b0 : decide (0 ≤ x4_1) = true := decide_eq_true c22
                  clear c22
                  by_cases c23 : x4_1 < (x3_1.length : Int)
                  · rw [if_pos c23] at H
                    have c23b0 : decide (x4_1 < (x3_1.length : Int)) = true := decide_eq_true c23
                    clear c23
                    replace H := Option.bind_eq_some_iff.mp H
                    obtain ⟨t300, A240, H⟩ := H
                    replace H : (if t300 = true then (if x4_1 > 0 then (if 0 ≤ (wrap64 (x4_1 - 1)) then (if (wrap64 (x4_1 - 1)) < (x3_1.length : Int) then (if (rd x3_1 (wrap64 (x4_1 - 1))) = 2 then (vinculumref26_Row.l0 kj6 (x3_1.set ((wrap64 (x4_1 - 1)) : Int).toNat 0) (wrap64 (x4_1 + 1))) else (vinculumref26_Row.l0 kj6 x3_1 (wrap64 (x4_1 + 1)))) else (none)) else (none)) else (vinculumref26_Row.l0 kj6 x3_1 (wrap64 (x4_1 + 1)))) else (vinculumref26_Row.l0 kj6 x3_1 (wrap64 (x4_1 + 1)))) = some r := H
                    have A24 := Aside0.mk A240
                    clear A240
                    by_cases c25 : t300 = true
                    · subst c25
                      have H1 : (if x4_1 > 0 then (if 0 ≤ (wrap64 (x4_1 - 1)) then (if (wrap64 (x4_1 - 1)) < (x3_1.length : Int) then (if (rd x3_1 (wrap64 (x4_1 - 1))) = 2 then (vinculumref26_Row.l0 kj6 (x3_1.set ((wrap64 (x4_1 - 1)) : Int).toNat 0) (wrap64 (x4_1 + 1))) else (vinculumref26_Row.l0 kj6 x3_1 (wrap64 (x4_1 + 1)))) else (none)) else (none)) else (vinculumref26_Row.l0 kj6 x3_1 (wrap64 (x4_1 + 1)))) = some r := by rw [if_pos rfl] at H; exact H
                      clear H
                      have H := H1
                      clear H1
                      by_cases c26 : x4_1 > 0
                      · rw [if_pos c26] at H
                        have c26b0 : decide (0 < x4_1) = true := decide_eq_true c26
                        clear c26
                        obtain ⟨ji27, hji27⟩ : ∃ j_ : Int, (wrap64 (x4_1 - 1)) = j_ := ⟨_, rfl⟩
                        replace H : (if 0 ≤ (ji27) then (if (ji27) < (x3_1.length : Int) then (if (rd x3_1 (ji27)) = 2 then (vinculumref26_Row.l0 kj6 (x3_1.set ((ji27) : Int).toNat 0) (wrap64 (x4_1 + 1))) else (vinculumref26_Row.l0 kj6 x3_1 (wrap64 (x4_1 + 1)))) else (none)) else (none)) = some r := by first | (rw [hji27] at H; exact H) | (simp only [hji27] at H ⊢; exact H)
                        (try rw [hji27] at A24)
                        have hji27w : (IntKind.i64.wrap (x4_1 - 1)) = ji27 := (i64_w _).trans hji27
                        by_cases c28 : 0 ≤ (ji27)
                        · rw [if_pos c28] at H
                          have c28b0 : decide (0 ≤ (ji27)) = true := decide_eq_true c28
                          clear c28
                          by_cases c29 : (ji27) < (x3_1.length : Int)
                          · rw [if_pos c29] at H
                            have c29b0 : decide ((ji27) < (x3_1.length : Int)) = true := decide_eq_true c29
                            clear c29
                            by_cases c30 : (rd x3_1 (ji27)) = 2
                            · rw [if_pos c30] at H
                              have c30b0 : ((rd x3_1 (ji27)) == 2) = true := beq_iff_eq.mpr c30
                              have c30b1 : ((rd x3_1 (ji27)) != 2) = false := bne_eq_false_iff_eq.mpr c30
                              clear c30
                              obtain ⟨y302, hy302⟩ : ∃ y_ : List Int, y_ = (x3_1.set ((ji27) : Int).toNat 0) := ⟨_, rfl⟩
                              replace H : (vinculumref26_Row.l0 kj6 y302 (wrap64 (x4_1 + 1))) = some r := by first | (rw [hy302]; with_reducible exact H) | (have H2_ := (Option.bind_some _ _).symm.trans H; rw [hy302]; with_reducible exact H2_) | (have H2_ := (Option.bind_some _ _).symm.trans H; with_reducible exact H2_) | with_reducible exact H | (rw [hy302]; exact H) | exact H
                              have Ny302 := Aside0.mk hy302
                              clear hy302
                              have H' := Aside0.mk H
                              clear H
                              have p299 : 0 ≤ (x4_1 : Int) := of_decide_eq_true (by first | (with_reducible assumption) | assumption)
                              have q299 : x4_1 < (x3_1.length : Int) := of_decide_eq_true (by first | (with_reducible assumption) | assumption)
                              obtain ⟨ad299, e299, hx299_0⟩ := Kd.at_int (Kd.R_reads' HO_3.out).2.2 x4_1 p299 q299
                              cases e299
                              replace p299 := eq_true p299
                              replace q299 := eq_true q299
                              go_wp2_with (first | ((with_reducible refine gate_callee (f := 94) rfl ?_); refine goesL_ (some 39) rfl rfl Tryd.func94 (by kernel_rfl) rfl #[.int .i64 (rd x3_1 x4_1)] rfl (by (try simp only [List.map_toArray, List.map_cons, List.map_nil]); first | done | rfl | (simp only [List.length_drop, List.length_take]; rfl)) ?_; (with_reducible refine (vinculumref26_closes.calls (rd x3_1 x4_1) true _ A24.out).mono ?_); rintro e w' ⟨rfl, ⟨nd, rfl⟩⟩; refine ⟨_, rfl, ?_⟩; (try (rw [drewN_self wc]; generalize hq_ : World.drewN wc _ = wc; have n0_ : Aside0 (Kd.R (Kd.int .i64) 3 wc w.heap.size (fun _ => True) (.slice (some ad299) x3_1.length co8) x3_1) := ⟨by rw [← hq_]; exact (by (with_reducible repeat (first | apply Kd.R_alloc | apply Kd.R_drewN | apply Kd.R_drew)); exact HO_3.out)⟩; have n1_ : Aside0 (Below w.heap.size w wc) := ⟨by rw [← hq_]; exact (by repeat (first | (with_reducible first | exact HB.out | apply below_alloc | apply pw_below_drewN | apply below_drew1) | exact HB.out))⟩; clear HO_3 HB hq_; have HO_3 := n0_; have HB := n1_; clear n0_ n1_)); have p301 : 0 ≤ ((ji27) : Int) := of_decide_eq_true (by first | (with_reducible assumption) | assumption); have q301 : (ji27) < (x3_1.length : Int) := of_decide_eq_true (by first | (with_reducible assumption) | assumption); obtain ⟨ad301, e301, hx301_0⟩ := Kd.at_int (Kd.R_reads' HO_3.out).2.2 (ji27) p301 q301; obtain rfl : ad299 = ad301 := (by injection e301); replace p301 := eq_true p301; replace q301 := eq_true q301; have p31 : 0 ≤ ((ji27) : Int) := of_decide_eq_true (by first | (with_reducible assumption) | assumption); have q31 : ((ji27) : Int) < ((x3_1.length : Int) : Int) := of_decide_eq_true (by first | (with_reducible assumption) | assumption); obtain ⟨go31, co31, eo31, gb31, gl31, cl31, HG31⟩ := Kd.R_form HO_3.out (by omega); (first | cases eo31 | (injection eo31 with ea_ en_ ec_; (first | subst ea_ | (injection ea_ with ea_; subst ea_)); subst ec_; clear en_)); have GB31 := Aside0.mk gb31; have GG31 := Aside0.mk HG31; clear gb31 gl31 HG31; (first | simp only [add_plain] at hx299_0 | skip); (first | simp only [add_plain] at hx301_0 | skip); obtain ⟨hx31_0, hf31_0⟩ := Kd.R_celln 0 HO_3.out ((ji27) : Int) p31 q31; replace p31 := eq_true p31; replace q31 := eq_true q31; obtain ⟨hy32_, hz32_⟩ := Kd.R_celln 0 HO_3.out ((ji27) : Int) (of_decide_eq_true (by first | (with_reducible assumption) | assumption)) (of_decide_eq_true (by first | (with_reducible assumption) | assumption)); have HP32 := Kd.R_putg HO_3.out ((ji27) : Int) 0) | ((with_reducible refine gate_store (t := 3) (p := 55) rfl ?_); refine store_event (t := 3) (p := 55) (v := ?vo_w33) (w1 := (wc.setCell ⟨go31, ((ji27) : Int).toNat, none⟩ (.int .i64 0))) ?hg ?ho ?hn ?hr ?_; (case ho => rfl); (case hg => rfl); (case hn => rfl); (case hr => first | (go_simp; done) | (go_simp; rfl)); intro w33 hw; have hg : wc.grownBy w33 (some go31) := (by rw [hw]; exact HP32.2); have hp_ : Kd.R (Kd.int .i64) 3 w33 w.heap.size (fun _ => True) (.slice (some ⟨go31, 0, none⟩) x3_1.length co8) y302 := (by rw [hw, Ny302.out]; exact HP32.1); clear HP32; have n0_ := Aside0.mk (hp_); have n1_ := Aside0.mk ((by rw [hw]; exact below_set (HB.out) GB31.out : Below w.heap.size w w33)); clear HO_3; clear HB; have HO_3 := n0_; have HB := n1_; clear n0_ n1_; clear hg hw hp_))
                              go_roundg kj6
                              case measure => have := HK1.out; have := HJ6.out; omega
                              case rel => exact ⟨(y302), (wrap64 (x4_1 + 1)), (by first | rfl | (simp; done) | (simp [*]; done)), H', ⟨by have := HK1.out; have := HJ6.out; omega⟩, ⟨by (with_reducible repeat (first | apply Kd.R_alloc | apply Kd.R_drewN | apply Kd.R_drew)); exact HO_3.out⟩, ⟨by repeat (first | (with_reducible first | exact HB.out | apply below_alloc | apply pw_below_drewN | apply below_drew1) | exact HB.out)⟩⟩
                            · rw [if_neg c30] at H
                              have c30b0 : ((rd x3_1 (ji27)) == 2) = false := beq_eq_false_iff_ne.mpr c30
                              have c30b1 : ((rd x3_1 (ji27)) != 2) = true := bne_iff_ne.mpr c30
                              have H' := Aside0.mk H
                              clear H
                              have p299 : 0 ≤ (x4_1 : Int) := of_decide_eq_true (by first | (with_reducible assumption) | assumption)
                              have q299 : x4_1 < (x3_1.length : Int) := of_decide_eq_true (by first | (with_reducible assumption) | assumption)
                              obtain ⟨ad299, e299, hx299_0⟩ := Kd.at_int (Kd.R_reads' HO_3.out).2.2 x4_1 p299 q299
                              cases e299
                              replace p299 := eq_true p299
                              replace q299 := eq_true q299
                              go_wp2_with (first | ((with_reducible refine gate_callee (f := 94) rfl ?_); refine goesL_ (some 39) rfl rfl Tryd.func94 (by kernel_rfl) rfl #[.int .i64 (rd x3_1 x4_1)] rfl (by (try simp only [List.map_toArray, List.map_cons, List.map_nil]); first | done | rfl | (simp only [List.length_drop, List.length_take]; rfl)) ?_; (with_reducible refine (vinculumref26_closes.calls (rd x3_1 x4_1) true _ A24.out).mono ?_); rintro e w' ⟨rfl, ⟨nd, rfl⟩⟩; refine ⟨_, rfl, ?_⟩; have p301 : 0 ≤ ((ji27) : Int) := of_decide_eq_true (by first | (with_reducible assumption) | assumption); have q301 : (ji27) < (x3_1.length : Int) := of_decide_eq_true (by first | (with_reducible assumption) | assumption); obtain ⟨ad301, e301, hx301_0⟩ := Kd.at_int (Kd.R_reads' HO_3.out).2.2 (ji27) p301 q301; obtain rfl : ad299 = ad301 := (by injection e301); replace p301 := eq_true p301; replace q301 := eq_true q301))
                              go_roundg kj6
                              case measure => have := HK1.out; have := HJ6.out; omega
                              case rel => exact ⟨(x3_1), (wrap64 (x4_1 + 1)), (by first | rfl | (simp; done) | (simp [*]; done)), H', ⟨by have := HK1.out; have := HJ6.out; omega⟩, ⟨by (with_reducible repeat (first | apply Kd.R_alloc | apply Kd.R_drewN | apply Kd.R_drew)); exact HO_3.out⟩, ⟨by repeat (first | (with_reducible first | exact HB.out | apply below_alloc | apply pw_below_drewN | apply below_drew1) | exact HB.out)⟩⟩
                          · rw [if_neg c29] at H
                            exact absurd H (by simp)
                        · rw [if_neg c28] at H
                          exact absurd H (by simp)
                      · rw [if_neg c26] at H
                        have c26b0 : decide (0 < x4_1) = false := decide_eq_false c26
                        clear c26
                        have H' := Aside0.mk H
                        clear H
                        have p299 : 0 ≤ (x4_1 : Int) := of_decide_eq_true (by first | (with_reducible assumption) | assumption)
                        have q299 : x4_1 < (x3_1.length : Int) := of_decide_eq_true (by first | (with_reducible assumption) | assumption)
                        obtain ⟨ad299, e299, hx299_0⟩ := Kd.at_int (Kd.R_reads' HO_3.out).2.2 x4_1 p299 q299
                        cases e299
                        replace p299 := eq_true p299
                        replace q299 := eq_true q299
                        go_wp2_with (first | ((with_reducible refine gate_callee (f := 94) rfl ?_); refine goesL_ (some 39) rfl rfl Tryd.func94 (by kernel_rfl) rfl #[.int .i64 (rd x3_1 x4_1)] rfl (by (try simp only [List.map_toArray, List.map_cons, List.map_nil]); first | done | rfl | (simp only [List.length_drop, List.length_take]; rfl)) ?_; (with_reducible refine (vinculumref26_closes.calls (rd x3_1 x4_1) true _ A24.out).mono ?_); rintro e w' ⟨rfl, ⟨nd, rfl⟩⟩; refine ⟨_, rfl, ?_⟩))
                        go_roundg kj6
                        case measure => have := HK1.out; have := HJ6.out; omega
                        case rel => exact ⟨(x3_1), (wrap64 (x4_1 + 1)), (by first | rfl | (simp; done) | (simp [*]; done)), H', ⟨by have := HK1.out; have := HJ6.out; omega⟩, ⟨by (with_reducible repeat (first | apply Kd.R_alloc | apply Kd.R_drewN | apply Kd.R_drew)); exact HO_3.out⟩, ⟨by repeat (first | (with_reducible first | exact HB.out | apply below_alloc | apply pw_below_drewN | apply below_drew1) | exact HB.out)⟩⟩
                    · replace c25 := Bool.eq_false_iff.mpr c25
                      subst c25
                      have H1 : (vinculumref26_Row.l0 kj6 x3_1 (wrap64 (x4_1 + 1))) = some r := by rw [if_neg (show ¬ (false = true) by decide)] at H; exact H
                      clear H
                      have H := H1
                      clear H1
                      have H' := Aside0.mk H
                      clear H
                      have p299 : 0 ≤ (x4_1 : Int) := of_decide_eq_true (by first | (with_reducible assumption) | assumption)
                      have q299 : x4_1 < (x3_1.length : Int) := of_decide_eq_true (by first | (with_reducible assumption) | assumption)
                      obtain ⟨ad299, e299, hx299_0⟩ := Kd.at_int (Kd.R_reads' HO_3.out).2.2 x4_1 p299 q299
                      cases e299
                      replace p299 := eq_true p299
                      replace q299 := eq_true q299
                      go_wp2_with (first | ((with_reducible refine gate_callee (f := 94) rfl ?_); refine goesL_ (some 39) rfl rfl Tryd.func94 (by kernel_rfl) rfl #[.int .i64 (rd x3_1 x4_1)] rfl (by (try simp only [List.map_toArray, List.map_cons, List.map_nil]); first | done | rfl | (simp only [List.length_drop, List.length_take]; rfl)) ?_; (with_reducible refine (vinculumref26_closes.calls (rd x3_1 x4_1) false _ A24.out).mono ?_); rintro e w' ⟨rfl, ⟨nd, rfl⟩⟩; refine ⟨_, rfl, ?_⟩))
                      go_roundg kj6
                      case measure => have := HK1.out; have := HJ6.out; omega
                      case rel => exact ⟨(x3_1), (wrap64 (x4_1 + 1)), (by first | rfl | (simp; done) | (simp [*]; done)), H', ⟨by have := HK1.out; have := HJ6.out; omega⟩, ⟨by (with_reducible repeat (first | apply Kd.R_alloc | apply Kd.R_drewN | apply Kd.R_drew)); exact HO_3.out⟩, ⟨by repeat (first | (with_reducible first | exact HB.out | apply below_alloc | apply pw_below_drewN | apply below_drew1) | exact HB.out)⟩⟩
                  · rw [if_neg c23] at H
                    exact absurd H (by simp)
                · rw [if_neg c22] at H
                  exact absurd H (by simp)
        · rw [if_neg c6] at H
          have c6b0 : decide (x4_1 < (x3_1.length : Int)) = false := decide_eq_false c6
          clear c6
          by_cases c34 : (wrap64 ((x3_1.length : Int) - 1)) ≥ 0
          · rw [if_pos c34] at H
            have c34b0 : decide (0 ≤ (wrap64 ((x3_1.length : Int) - 1))) = true := decide_eq_true c34
            clear c34
            obtain ⟨ji35, hji35⟩ : ∃ j_ : Int, (wrap64 ((x3_1.length : Int) - 1)) = j_ := ⟨_, rfl⟩
            replace H : (if 0 ≤ (ji35) then (if (ji35) < (x3_1.length : Int) then (if (rd x3_1 (ji35)) = 2 then (some (x3_1.set ((ji35) : Int).toNat 0)) else (some x3_1)) else (none)) else (none)) = some r := by first | (rw [hji35] at H; exact H) | (simp only [hji35] at H ⊢; exact H)
            (try rw [hji35] at c34b0)
            have hji35w : (IntKind.i64.wrap ((x3_1.length : Int) - 1)) = ji35 := (i64_w _).trans hji35
            by_cases c36 : 0 ≤ (ji35)
            · rw [if_pos c36] at H
              have c36b0 : decide (0 ≤ (ji35)) = true := decide_eq_true c36
              clear c36
              by_cases c37 : (ji35) < (x3_1.length : Int)
              · rw [if_pos c37] at H
                have c37b0 : decide ((ji35) < (x3_1.length : Int)) = true := decide_eq_true c37
                clear c37
                by_cases c38 : (rd x3_1 (ji35)) = 2
                · rw [if_pos c38] at H
                  have c38b0 : ((rd x3_1 (ji35)) == 2) = true := beq_iff_eq.mpr c38
                  have c38b1 : ((rd x3_1 (ji35)) != 2) = false := bne_eq_false_iff_eq.mpr c38
                  clear c38
                  obtain ⟨y294, hy294⟩ : ∃ y_ : List Int, y_ = (x3_1.set ((ji35) : Int).toNat 0) := ⟨_, rfl⟩
                  replace H : (some y294) = some r := by first | (rw [hy294]; with_reducible exact H) | (have H2_ := (Option.bind_some _ _).symm.trans H; rw [hy294]; with_reducible exact H2_) | (have H2_ := (Option.bind_some _ _).symm.trans H; with_reducible exact H2_) | with_reducible exact H | (rw [hy294]; exact H) | exact H
                  have Ny294 := Aside0.mk hy294
                  clear hy294
                  obtain rfl := Option.some.inj H
                  obtain ⟨Ao40, co40, eo40⟩ := Kd.R_slice HO_3.out
                  subst eo40
                  have p293 : 0 ≤ ((ji35) : Int) := of_decide_eq_true (by first | (with_reducible assumption) | assumption)
                  have q293 : (ji35) < (x3_1.length : Int) := of_decide_eq_true (by first | (with_reducible assumption) | assumption)
                  obtain ⟨ad293, e293, hx293_0⟩ := Kd.at_int (Kd.R_reads' HO_3.out).2.2 (ji35) p293 q293
                  cases e293
                  replace p293 := eq_true p293
                  replace q293 := eq_true q293
                  have p39 : 0 ≤ ((ji35) : Int) := of_decide_eq_true (by first | (with_reducible assumption) | assumption)
                  have q39 : ((ji35) : Int) < ((x3_1.length : Int) : Int) := of_decide_eq_true (by first | (with_reducible assumption) | assumption)
                  obtain ⟨go39, co39, eo39, gb39, gl39, cl39, HG39⟩ := Kd.R_form HO_3.out (by omega)
                  (first | cases eo39 | (injection eo39 with ea_ en_ ec_; (first | subst ea_ | (injection ea_ with ea_; subst ea_)); subst ec_; clear en_))
                  have GB39 := Aside0.mk gb39
                  have GG39 := Aside0.mk HG39
                  clear gb39 gl39 HG39
                  (first | simp only [add_plain] at hx293_0 | skip)
                  obtain ⟨hx39_0, hf39_0⟩ := Kd.R_celln 0 HO_3.out ((ji35) : Int) p39 q39
                  replace p39 := eq_true p39
                  replace q39 := eq_true q39
                  have HP41 := Kd.R_putg HO_3.out ((ji35) : Int) 0
                  go_wp2_with (first | ((with_reducible refine gate_store (t := 3) (p := 70) rfl ?_); refine store_event (t := 3) (p := 70) (v := ?vo_w42) (w1 := (wr.setCell ⟨go39, ((ji35) : Int).toNat, none⟩ (.int .i64 0))) ?hg ?ho ?hn ?hr ?_; (case ho => rfl); (case hg => rfl); (case hn => rfl); (case hr => first | (go_simp; done) | (go_simp; rfl)); intro w42 hw; have hg : wr.grownBy w42 (some go39) := (by rw [hw]; exact HP41.2); have hp_ : Kd.R (Kd.int .i64) 3 w42 w.heap.size (fun _ => True) (.slice (some ⟨go39, 0, none⟩) x3_1.length co40) y294 := (by rw [hw, Ny294.out]; exact HP41.1); clear HP41; have n0_ := Aside0.mk (hp_); have n1_ := Aside0.mk ((by rw [hw]; exact below_set (HB.out) GB39.out : Below w.heap.size w w42)); clear HO_3; clear HB; have HO_3 := n0_; have HB := n1_; clear n0_ n1_; clear hg hw hp_))
                  go_ret
                  exact ⟨_, by first | rfl | (simp [errW_none, errW_some] <;> rfl) | (simp only [← hji35]; first | rfl | (simp [errW_none, errW_some] <;> rfl)) | (simp [*, errW_none, errW_some] <;> rfl), by (with_reducible repeat (first | apply Kd.R_alloc | apply Kd.R_drewN | apply Kd.R_drew)); exact HO_3.out, by repeat (first | (with_reducible first | exact HB.out | apply below_alloc | apply pw_below_drewN | apply below_drew1) | exact HB.out)⟩
                · rw [if_neg c38] at H
                  have c38b0 : ((rd x3_1 (ji35)) == 2) = false := beq_eq_false_iff_ne.mpr c38
                  have c38b1 : ((rd x3_1 (ji35)) != 2) = true := bne_iff_ne.mpr c38
                  obtain rfl := Option.some.inj H
                  obtain ⟨Ao43, co43, eo43⟩ := Kd.R_slice HO_3.out
                  subst eo43
                  have p293 : 0 ≤ ((ji35) : Int) := of_decide_eq_true (by first | (with_reducible assumption) | assumption)
                  have q293 : (ji35) < (x3_1.length : Int) := of_decide_eq_true (by first | (with_reducible assumption) | assumption)
                  obtain ⟨ad293, e293, hx293_0⟩ := Kd.at_int (Kd.R_reads' HO_3.out).2.2 (ji35) p293 q293
                  cases e293
                  replace p293 := eq_true p293
                  replace q293 := eq_true q293
                  go_wp2
                  go_ret
                  exact ⟨_, by first | rfl | (simp [errW_none, errW_some] <;> rfl) | (simp only [← hji35]; first | rfl | (simp [errW_none, errW_some] <;> rfl)) | (simp [*, errW_none, errW_some] <;> rfl), by (with_reducible repeat (first | apply Kd.R_alloc | apply Kd.R_drewN | apply Kd.R_drew)); exact HO_3.out, by repeat (first | (with_reducible first | exact HB.out | apply below_alloc | apply pw_below_drewN | apply below_drew1) | exact HB.out)⟩
              · rw [if_neg c37] at H
                exact absurd H (by simp)
            · rw [if_neg c36] at H
              exact absurd H (by simp)
          · rw [if_neg c34] at H
            have c34b0 : decide (0 ≤ (wrap64 ((x3_1.length : Int) - 1))) = false := decide_eq_false c34
            clear c34
            obtain rfl := Option.some.inj H
            obtain ⟨Ao44, co44, eo44⟩ := Kd.R_slice HO_3.out
            subst eo44
            go_wp2
            go_ret
            exact ⟨_, by first | rfl | (simp [errW_none, errW_some] <;> rfl) | (simp [*, errW_none, errW_some] <;> rfl), by (with_reducible repeat (first | apply Kd.R_alloc | apply Kd.R_drewN | apply Kd.R_drew)); exact HO_3.out, by repeat (first | (with_reducible first | exact HB.out | apply below_alloc | apply pw_below_drewN | apply below_drew1) | exact HB.out)⟩
  · rw [if_neg c2] at H
    exact absurd H (by simp)
end Go.Proofs.YtagkhoeidjlahaaDoor.G
namespace Go.Proofs.YtagkhoeidjlahaaDoor.G
open Go.RowKit Go.Proofs.YtagkhoeidjlahaaDoorW.PrintWords Go.Proofs.YtagkhoeidjlahaaDoorW.PrintLast Go.Proofs.YtagkhoeidjlahaaDoorW.PrintMore
attribute [local go_sem] max2_int min2_int max_two min_two max_three min_three max_four min_four
set_option linter.unusedVariables false
set_option linter.unusedSimpArgs false
mutual
def vinculumref26_Classes.j0 : Nat → List (S68) → List (S36) → Bool → Option (List Int × Int)
  | 0, _, _, _ => none
  | k + 1, x0, x1, x15 => if x15 = true then (some (([] : List Int), 1)) else (vinculumref26_Classes.l0 k x0 x1 ([] : List Int) 0)
def vinculumref26_Classes.l0 : Nat → List (S68) → List (S36) → List Int → Int → Option (List Int × Int)
  | 0, _, _, _, _ => none
  | k + 1, x0, x1, x6, x7 => if x7 < (x1.length : Int) then (if 0 ≤ x7 then ((vinculumref26_Class.f k x0 ((rd_T36 x1 x7).f0) ((rd_T36 x1 x7).f1) ((rd_T36 x1 x7).f2) ((rd_T36 x1 x7).f3)).bind fun t306 => (if x6.length < 17592186044416 then (vinculumref26_Classes.l0 k x0 x1 (x6 ++ [t306]) (wrap64 (x7 + 1))) else (none))) else (none)) else ((vinculumref26_Row.f k x6).bind fun t310 => (some (t310, 0)))
end
def vinculumref26_Classes.f (k : Nat) (l0 : List (S68)) (l1 : List (S36)) : Option (List Int × Int) := (vinculumref08_Valid.f k l0).bind fun t303 => (if t303 = true then ((vinculumref09_ValidItems.f k l1).bind fun t304 => (vinculumref26_Classes.j0 k l0 l1 (!t304))) else (vinculumref26_Classes.j0 k l0 l1 true))
set_option maxHeartbeats 8000000 in
set_option maxRecDepth 100000 in
theorem vinculumref26_Classes.calls (k : Nat) (A0 : Option Addr) (c0 : Nat) (l0 : List (S68)) (A1 : Option Addr) (c1 : Nat) (l1 : List (S36)) (r1 : List Int) (r2 : Int) (w : World) (hr0 : Kd.C k68 w A0 l0.length l0) (hc0 : l0.length ≤ c0) (hr1 : Kd.C k36 w A1 l1.length l1) (hc1 : l1.length ≤ c1) (h : vinculumref26_Classes.f k l0 l1 = some (r1, r2)) :
    Calls Tryd.prog 22 #[.slice A0 l0.length c0, .slice A1 l1.length c1] w fun e w' => ∃ v0_ : Value, e = .returned (.tuple #[v0_, .int .i64 r2]) ∧ Kd.R (Kd.int .i64) 3 w' w.heap.size (fun _ => True) v0_ r1 ∧ Below w.heap.size w w' := by
  have hu36 := Tryd.underlying36
  have HR0 := Aside0.mk hr0
  have HC0 := Aside0.mk hc0
  clear hr0 hc0
  have HR1 := Aside0.mk hr1
  have HC1 := Aside0.mk hc1
  clear hr1 hc1
  have HB := Aside0.mk (Below.refl w.heap.size w)
  have H : ((vinculumref08_Valid.f k l0).bind fun t303 => (if t303 = true then ((vinculumref09_ValidItems.f k l1).bind fun t304 => (vinculumref26_Classes.j0 k l0 l1 (!t304))) else (vinculumref26_Classes.j0 k l0 l1 true))) = some (r1, r2) := h
  clear h
  have HC3 := Aside0.mk H
  clear H
  go_enter Tryd.func22, Tryd.ntmps22
  go_upto_region 1 with (fail)
  go_cut [15] (fun v15 wc => ∃ (kq : Nat) (x15_2 : Bool), v15 = .bool x15_2 ∧ Aside0 (vinculumref26_Classes.j0 kq l0 l1 x15_2 = some (r1, r2)) ∧ Aside0 (kq ≤ k) ∧ Aside0 (Below w.heap.size w wc))
  case first =>
    have H := HC3.out
    clear HC3
    replace H := Option.bind_eq_some_iff.mp H
    obtain ⟨t303, A40, H⟩ := H
    replace H : (if t303 = true then ((vinculumref09_ValidItems.f k l1).bind fun t304 => (vinculumref26_Classes.j0 k l0 l1 (!t304))) else (vinculumref26_Classes.j0 k l0 l1 true)) = some (r1, r2) := H
    have A4 := Aside0.mk A40
    clear A40
    by_cases c5 : t303 = true
    · subst c5
      have H1 : ((vinculumref09_ValidItems.f k l1).bind fun t304 => (vinculumref26_Classes.j0 k l0 l1 (!t304))) = some (r1, r2) := by rw [if_pos rfl] at H; exact H
      clear H
      have H := H1
      clear H1
      replace H := Option.bind_eq_some_iff.mp H
      obtain ⟨t304, A60, H⟩ := H
      replace H : (vinculumref26_Classes.j0 k l0 l1 (!t304)) = some (r1, r2) := H
      have A6 := Aside0.mk A60
      clear A60
      have H' := Aside0.mk H
      clear H
      go_wp2_with (first | ((with_reducible refine gate_callee (f := 65) rfl ?_); refine goesL_ (some 9) rfl rfl Tryd.func65 (by kernel_rfl) rfl #[.slice A0 l0.length c0] rfl (by (try simp only [List.map_toArray, List.map_cons, List.map_nil]); first | done | rfl | (simp only [List.length_drop, List.length_take]; rfl)) ?_; (with_reducible refine (vinculumref08_Valid.calls k _ _ l0 true _ ?side1 ?side2 A4.out).mono ?_); (case side1 => repeat (first | exact (Kd.C_below HR0.out HB.out) | (with_reducible refine Kd.C_alloc ?_ _) | (with_reducible refine Kd.C_drewN ?_ _) | (with_reducible refine Kd.C_drew ?_))); (case side2 => exact HC0.out); rintro e w7 ⟨rfl, hb⟩; refine ⟨_, rfl, ?_⟩; have n0_ := Aside0.mk (below_step (by repeat (first | (with_reducible first | exact HB.out | apply below_alloc | apply pw_below_drewN | apply below_drew1) | exact HB.out)) hb); clear HB; have HB := n0_; clear n0_; (try clear hb); (try clear hb2); (try clear hk); (try clear hi)) | (go_at_call 23; (with_reducible refine (vinculumref09_ValidItems.calls k _ _ l1 t304 _ ?side1 ?side2 A6.out).mono ?_); (case side1 => repeat (first | exact (Kd.C_below HR1.out HB.out) | (with_reducible refine Kd.C_alloc ?_ _) | (with_reducible refine Kd.C_drewN ?_ _) | (with_reducible refine Kd.C_drew ?_))); (case side2 => exact HC1.out); rintro e w8 ⟨rfl, hb⟩; have n0_ := Aside0.mk (below_step (by repeat (first | (with_reducible first | exact HB.out | apply below_alloc | apply pw_below_drewN | apply below_drew1) | exact HB.out)) hb); clear HB; have HB := n0_; clear n0_; (try clear hb); (try clear hb2); (try clear hk); (try clear hi)))
      go_meet
      case rel => exact ⟨_, (!t304), (by first | rfl | (simp; done) | (simp [*]; done)), H', ⟨by first | omega | exact Nat.le_refl _⟩, ⟨by repeat (first | (with_reducible first | exact HB.out | apply below_alloc | apply pw_below_drewN | apply below_drew1) | exact HB.out)⟩⟩
    · replace c5 := Bool.eq_false_iff.mpr c5
      subst c5
      have H1 : (vinculumref26_Classes.j0 k l0 l1 true) = some (r1, r2) := by rw [if_neg (show ¬ (false = true) by decide)] at H; exact H
      clear H
      have H := H1
      clear H1
      have H' := Aside0.mk H
      clear H
      go_wp2_with (first | ((with_reducible refine gate_callee (f := 65) rfl ?_); refine goesL_ (some 9) rfl rfl Tryd.func65 (by kernel_rfl) rfl #[.slice A0 l0.length c0] rfl (by (try simp only [List.map_toArray, List.map_cons, List.map_nil]); first | done | rfl | (simp only [List.length_drop, List.length_take]; rfl)) ?_; (with_reducible refine (vinculumref08_Valid.calls k _ _ l0 false _ ?side1 ?side2 A4.out).mono ?_); (case side1 => repeat (first | exact (Kd.C_below HR0.out HB.out) | (with_reducible refine Kd.C_alloc ?_ _) | (with_reducible refine Kd.C_drewN ?_ _) | (with_reducible refine Kd.C_drew ?_))); (case side2 => exact HC0.out); rintro e w9 ⟨rfl, hb⟩; refine ⟨_, rfl, ?_⟩; have n0_ := Aside0.mk (below_step (by repeat (first | (with_reducible first | exact HB.out | apply below_alloc | apply pw_below_drewN | apply below_drew1) | exact HB.out)) hb); clear HB; have HB := n0_; clear n0_; (try clear hb); (try clear hb2); (try clear hk); (try clear hi)))
      go_meet
      case rel => exact ⟨_, (true), (by first | rfl | (simp; done) | (simp [*]; done)), H', ⟨by first | omega | exact Nat.le_refl _⟩, ⟨by repeat (first | (with_reducible first | exact HB.out | apply below_alloc | apply pw_below_drewN | apply below_drew1) | exact HB.out)⟩⟩
  case rest =>
    clear HC3
    try clear c1
    try clear c2
    try clear p2
    try clear c5
    try clear c6
    obtain ⟨kq, x15_2, rfl, HA, HJ2, HB⟩ := hcut
    cases kq with
    | zero => exact absurd HA.out (by simp [vinculumref26_Classes.j0])
    | succ kj2 =>
      have H := HA.out
      clear HA
      simp only [vinculumref26_Classes.j0] at H
      by_cases c10 : x15_2 = true
      · subst c10
        have H1 : (some (([] : List Int), 1)) = some (r1, r2) := by rw [if_pos rfl] at H; exact H
        clear H
        have H := H1
        clear H1
        simp only [Option.some.injEq, Prod.mk.injEq] at H
        obtain ⟨rfl, rfl⟩ := H
        go_wp2
        go_ret2
        exact ⟨_, by first | rfl | (simp [errW_none, errW_some] <;> rfl) | (simp [*, errW_none, errW_some] <;> rfl), by first | exact Kd.R_nil _ _ _ _ _ | exact Kd.N_nil _ _ _ _ _ | exact Kd.V_nil _ _ _ _ _ | exact Kd.Q_nil _ _ _ _ _ | exact Kd.S_nil _ _ _ _ _, by repeat (first | (with_reducible first | exact HB.out | apply below_alloc | apply pw_below_drewN | apply below_drew1) | exact HB.out)⟩
      · replace c10 := Bool.eq_false_iff.mpr c10
        subst c10
        have H1 : (vinculumref26_Classes.l0 kj2 l0 l1 ([] : List Int) 0) = some (r1, r2) := by rw [if_neg (show ¬ (false = true) by decide)] at H; exact H
        clear H
        have H := H1
        clear H1
        have H' := Aside0.mk H
        clear H
        go_wp2
        go_loopg [6, 7] kj2 (fun kq v6 v7 w' => ∃ (x6_2 : List Int) (x7_2 : Int), v7 = .int .i64 x7_2 ∧ Aside0 (vinculumref26_Classes.l0 kq l0 l1 x6_2 x7_2 = some (r1, r2)) ∧ Aside0 (kq ≤ kj2) ∧ Aside0 (Kd.R (Kd.int .i64) 3 w' w.heap.size (fun _ => True) v6 x6_2) ∧ Aside0 (Below w.heap.size w w'))
        case atStart => exact ⟨(([] : List Int)), (0), (by first | rfl | (simp; done) | (simp [*]; done)), H', ⟨Nat.le_refl _⟩, ⟨by first | exact Kd.R_nil _ _ _ _ _ | exact Kd.N_nil _ _ _ _ _ | exact Kd.V_nil _ _ _ _ _ | exact Kd.Q_nil _ _ _ _ _ | exact Kd.S_nil _ _ _ _ _⟩, ⟨by repeat (first | (with_reducible first | exact HB.out | apply below_alloc | apply pw_below_drewN | apply below_drew1) | exact HB.out)⟩⟩
        case round =>
          clear H'
          try clear c1
          try clear c2
          try clear p2
          try clear c5
          try clear c6
          try clear c10
          try clear p2
          obtain ⟨x6_2, x7_2, rfl, HA, HK2, HO_6, HB⟩ := hrel
          cases gk with
          | zero => exact absurd HA.out (by simp [vinculumref26_Classes.l0])
          | succ k2 =>
            have H := HA.out
            clear HA
            simp only [vinculumref26_Classes.l0] at H
            by_cases c11 : x7_2 < (l1.length : Int)
            · rw [if_pos c11] at H
              have c11b0 : decide (x7_2 < (l1.length : Int)) = true := decide_eq_true c11
              clear c11
              by_cases c12 : 0 ≤ x7_2
              · rw [if_pos c12] at H
                have c12b0 : decide (0 ≤ x7_2) = true := decide_eq_true c12
                clear c12
                replace H := Option.bind_eq_some_iff.mp H
                obtain ⟨t306, A130, H⟩ := H
                replace H : (if x6_2.length < 17592186044416 then (vinculumref26_Classes.l0 k2 l0 l1 (x6_2 ++ [t306]) (wrap64 (x7_2 + 1))) else (none)) = some (r1, r2) := H
                have A13 := Aside0.mk A130
                clear A130
                by_cases c14 : x6_2.length < 17592186044416
                · rw [if_pos c14] at H
                  have LMc14 := Aside0.mk c14
                  clear c14
                  obtain ⟨y307, hy307⟩ : ∃ y_ : List Int, y_ = (x6_2 ++ [t306]) := ⟨_, rfl⟩
                  replace H : (vinculumref26_Classes.l0 k2 l0 l1 y307 (wrap64 (x7_2 + 1))) = some (r1, r2) := by first | (rw [hy307]; with_reducible exact H) | (have H2_ := (Option.bind_some _ _).symm.trans H; rw [hy307]; with_reducible exact H2_) | (have H2_ := (Option.bind_some _ _).symm.trans H; with_reducible exact H2_) | with_reducible exact H | (rw [hy307]; exact H) | exact H
                  have Ny307 := Aside0.mk hy307
                  clear hy307
                  have H' := Aside0.mk H
                  clear H
                  have p305 : 0 ≤ (x7_2 : Int) := of_decide_eq_true (by first | (with_reducible assumption) | assumption)
                  have q305 : x7_2 < (l1.length : Int) := of_decide_eq_true (by first | (with_reducible assumption) | assumption)
                  obtain ⟨ad305, A305_3, c305_3, e305, hx305_0, hx305_1, hx305_2, hx305_3, hl305_3, hi305_3⟩ := at_T36 HR1.out x7_2 p305 q305
                  cases e305
                  replace hx305_0 := (HB.out.cell (World.block_lt_of_cell? w _ hx305_0)).trans hx305_0
                  replace hx305_1 := (HB.out.cell (World.block_lt_of_cell? w _ hx305_1)).trans hx305_1
                  replace hx305_2 := (HB.out.cell (World.block_lt_of_cell? w _ hx305_2)).trans hx305_2
                  replace hx305_3 := (HB.out.cell (World.block_lt_of_cell? w _ hx305_3)).trans hx305_3
                  have HR305_3 := Aside0.mk hi305_3
                  have HC305_3 := Aside0.mk hl305_3
                  clear hi305_3 hl305_3
                  replace p305 := eq_true p305
                  replace q305 := eq_true q305
                  go_wp2_with (first | ((with_reducible refine gate_callee (f := 66) rfl ?_); refine goesL_ (some 28) rfl rfl Tryd.func66 (by kernel_rfl) rfl #[.slice A0 l0.length c0, .agg #[.int .i64 ((rd_T36 l1 x7_2).f0), .string ((rd_T36 l1 x7_2).f1), .int .i64 ((rd_T36 l1 x7_2).f2), .slice A305_3 ((rd_T36 l1 x7_2).f3).length c305_3]] rfl (by (try simp only [List.map_toArray, List.map_cons, List.map_nil]); first | done | rfl | (simp only [List.length_drop, List.length_take]; rfl)) ?_; (with_reducible refine (vinculumref26_Class.calls k2 _ _ l0 ((rd_T36 l1 x7_2).f0) ((rd_T36 l1 x7_2).f1) ((rd_T36 l1 x7_2).f2) _ _ ((rd_T36 l1 x7_2).f3) t306 _ ?side1 ?side2 ?side3 ?side4 A13.out).mono ?_); (case side1 => repeat (first | exact (Kd.C_below HR0.out HB.out) | (with_reducible refine Kd.C_alloc ?_ _) | (with_reducible refine Kd.C_drewN ?_ _) | (with_reducible refine Kd.C_drew ?_))); (case side2 => exact HC0.out); (case side3 => repeat (first | exact (Kd.C_below HR305_3.out HB.out) | (with_reducible refine Kd.C_alloc ?_ _) | (with_reducible refine Kd.C_drewN ?_ _) | (with_reducible refine Kd.C_drew ?_))); (case side4 => exact HC305_3.out); rintro e w15 ⟨rfl, hb⟩; refine ⟨_, rfl, ?_⟩; have n0_ := Aside0.mk (Kd.R_below (by (with_reducible repeat (first | apply Kd.R_alloc | apply Kd.R_drewN | apply Kd.R_drew)); exact HO_6.out) hb); have n1_ := Aside0.mk (below_step (by repeat (first | (with_reducible first | exact HB.out | apply below_alloc | apply pw_below_drewN | apply below_drew1) | exact HB.out)) hb); clear HO_6; clear HB; have HO_6 := n0_; have HB := n1_; clear n0_ n1_; (try clear hb); (try clear hb2); (try clear hk); (try clear hi)) | ((with_reducible refine gate_builtin (b := .append) (xs := #[.tmp 22, .tmp 29]) rfl ?_); at_builtin; refine Kd.R_append (Kd.int .i64) (w0 := w) w.heap.size rfl (.tmp 22) (.tmp 29) 26 3 (.int .i64 0) 8 rfl Tryd.underlying26 info3 rfl (by decide) (by omega) u6 x6_2 t306 [.int .i64 t306] (fun _ => True) (fun _ => False) rfl rfl ?aP (fun _ hk => hk.elim) ?aF ?aO ?aB ?aS ?aL ?_; (case aP => exact rfl); (case aB => exact (by repeat (first | (with_reducible first | exact HB.out | apply below_alloc | apply pw_below_drewN | apply below_drew1) | exact HB.out))); (case aF => exact (fun _ _ => trivial)); (case aO => exact (by (with_reducible repeat (first | apply Kd.R_alloc | apply Kd.R_drewN | apply Kd.R_drew)); exact HO_6.out)); (case aS => exact (below_size (by repeat (first | (with_reducible first | exact HB.out | apply below_alloc | apply pw_below_drewN | apply below_drew1) | exact HB.out)))); (case aL => have := LMc14.out; omega); intro v308 w16 ho hb hg hat; rw [← Ny307.out] at ho; have n0_ := Aside0.mk (hb); have n1_ := Aside0.mk (ho); clear HB; clear HO_6; have HB := n0_; have HO309 := n1_; clear n0_ n1_; clear ho hb hg hat))
                  go_roundg k2
                  case measure => have := HJ2.out; have := HK2.out; omega
                  case rel => exact ⟨(y307), (wrap64 (x7_2 + 1)), (by first | rfl | (simp; done) | (simp [*]; done)), H', ⟨by have := HJ2.out; have := HK2.out; omega⟩, ⟨by (with_reducible repeat (first | apply Kd.R_alloc | apply Kd.R_drewN | apply Kd.R_drew)); exact HO309.out⟩, ⟨by repeat (first | (with_reducible first | exact HB.out | apply below_alloc | apply pw_below_drewN | apply below_drew1) | exact HB.out)⟩⟩
                · rw [if_neg c14] at H
                  exact absurd H (by simp)
              · rw [if_neg c12] at H
                exact absurd H (by simp)
            · rw [if_neg c11] at H
              have c11b0 : decide (x7_2 < (l1.length : Int)) = false := decide_eq_false c11
              clear c11
              replace H := Option.bind_eq_some_iff.mp H
              obtain ⟨t310, A170, H⟩ := H
              replace H : (some (t310, 0)) = some (r1, r2) := H
              have A17 := Aside0.mk A170
              clear A170
              simp only [Option.some.injEq, Prod.mk.injEq] at H
              obtain ⟨rfl, rfl⟩ := H
              obtain ⟨Ao18, co18, eo18⟩ := Kd.R_slice HO_6.out
              subst eo18
              go_wp2_with (first | ((with_reducible refine gate_callee (f := 67) rfl ?_); refine goesL_ (some 32) rfl rfl Tryd.func67 (by kernel_rfl) rfl #[.slice Ao18 x6_2.length co18] rfl (by (try simp only [List.map_toArray, List.map_cons, List.map_nil]); first | done | rfl | (simp only [List.length_drop, List.length_take]; rfl)) ?_; (with_reducible refine (vinculumref26_Row.calls k2 _ _ x6_2 t310 _ ?side1 ?side2 A17.out).mono ?_); (case side1 => repeat (first | exact (Kd.R_reads' HO_6.out).2.2 | (with_reducible refine Kd.C_alloc ?_ _) | (with_reducible refine Kd.C_drewN ?_ _) | (with_reducible refine Kd.C_drew ?_))); (case side2 => exact (Kd.R_reads' HO_6.out).2.1); rintro e w19 ⟨v311, rfl, ho0, hb⟩; refine ⟨_, rfl, ?_⟩; have n0_ := Aside0.mk (Kd.R_elder' (by (with_reducible repeat (first | apply Kd.R_alloc | apply Kd.R_drewN | apply Kd.R_drew)); exact HO_6.out) (Kd.R_base ho0) hb); have n1_ := Aside0.mk (Kd.R_lower (Kd.R_new' ho0 (Kd.R_lt (by (with_reducible repeat (first | apply Kd.R_alloc | apply Kd.R_drewN | apply Kd.R_drew)); exact HO_6.out))) (below_size (by repeat (first | (with_reducible first | exact HB.out | apply below_alloc | apply pw_below_drewN | apply below_drew1) | exact HB.out)))); have n2_ := Aside0.mk (below_step (by repeat (first | (with_reducible first | exact HB.out | apply below_alloc | apply pw_below_drewN | apply below_drew1) | exact HB.out)) hb); clear HO_6; clear HB; have HO_6 := n0_; have HO312 := n1_; have HB := n2_; clear n0_ n1_ n2_; (try clear hb); (try clear hb2); (try clear hk); (try clear hi); (try clear ho0)))
              go_ret2
              exact ⟨_, by first | rfl | (simp [errW_none, errW_some] <;> rfl) | (simp [*, errW_none, errW_some] <;> rfl), by (with_reducible repeat (first | apply Kd.R_alloc | apply Kd.R_drewN | apply Kd.R_drew)); exact Kd.R_mono HO312.out (fun _ hk => trivial), by repeat (first | (with_reducible first | exact HB.out | apply below_alloc | apply pw_below_drewN | apply below_drew1) | exact HB.out)⟩
end Go.Proofs.YtagkhoeidjlahaaDoor.G
namespace Go.Proofs.YtagkhoeidjlahaaDoor.G
open Go.RowKit Go.Proofs.YtagkhoeidjlahaaDoorW.PrintWords Go.Proofs.YtagkhoeidjlahaaDoorW.PrintLast Go.Proofs.YtagkhoeidjlahaaDoorW.PrintMore
attribute [local go_sem] max2_int min2_int max_two min_two max_three min_three max_four min_four
set_option linter.unusedVariables false
set_option linter.unusedSimpArgs false
section opw
open Go.Maps
def badC (c : Int) : Bool := decide (c < 33) || decide (126 < c)
def badB (b : UInt8) : Bool := badC (b.toNat : Int)
def properB (s : ByteArray) (q : Int) : Bool := decide (1 ≤ s.size) && decide (s.size ≤ 16) && !(s.data.toList.any badB) && decide (0 ≤ q) && decide (q ≤ 7)
def dupFree : List ByteArray → Bool
  | [] => true
  | x :: l => !(l.any fun y => decide (y = x)) && dupFree l
def idxE (t : ByteArray) : List (S68) → Int → Int
  | [], _ => -1
  | x :: l, i => if x.f0.toList = t.toList then i else idxE t l (i + 1)
set_option maxRecDepth 100000 in
theorem pr1_calls (c : Int) (w : World) : Calls Tryd.prog 122 #[.int .u8 c] w fun e w' => e = .returned (.bool (badC c)) ∧ w' = w := by
  by_cases h : c < 33
  · have h' : decide (c < 33) = true := decide_eq_true h
    have HF : Aside0 (badC c = true) := ⟨by unfold badC; rw [h']; rfl⟩
    go_enter Tryd.func122, Tryd.ntmps122
    go_wp2
    go_ret
    exact ⟨by rw [HF.out]; rfl, rfl⟩
  · have h' : decide (c < 33) = false := decide_eq_false h
    have HF : Aside0 (badC c = decide (126 < c)) := ⟨by unfold badC; rw [h']; rfl⟩
    go_enter Tryd.func122, Tryd.ntmps122
    go_wp2
    go_ret
    exact ⟨by rw [HF.out]; rfl, rfl⟩
set_option maxHeartbeats 1000000 in
set_option maxRecDepth 100000 in
theorem ixb_calls (g n cp : Nat) (xs : List UInt8) (w : World) (hn : n = xs.length) (hbig : n ≤ 16) (hg : g < w.heap.size)
    (hc : ∀ j, j < xs.length → w.cell? ⟨g, j, none⟩ = some (.int .u8 ((xs.getD j 0).toNat : Nat))) :
    Calls Tryd.prog 135 #[.slice (some ⟨g, 0, none⟩) n cp, .func (.func 122) #[] #[]] w fun e w' => ∃ i : Int, e = .returned (.int .i64 i) ∧ decide (0 ≤ i) = xs.any badB ∧ Below w.heap.size w w' := by
  have HC := Aside0.mk hc
  have HN := Aside0.mk hn
  clear hc hn
  go_enter Tryd.func135, Tryd.ntmps135
  go_wp2_with fail
  go_loopg [5, 8] n (fun gg _ s8 wr => ∃ kk : Nat, kk ≤ n ∧ n - kk ≤ gg ∧ s8 = .int .i64 kk ∧ Aside0 (Below w.heap.size w wr) ∧ Aside0 (∀ j, j < kk → badB (xs.getD j 0) = false))
  case atStart => exact ⟨0, Nat.zero_le _, by omega, rfl, ⟨Below.refl _ w⟩, ⟨fun j hj => absurd hj (Nat.not_lt_zero _)⟩⟩
  case round =>
    obtain ⟨kk, hkk, hgk, rfl, BW, HA⟩ := hrel
    by_cases hlt : kk < n
    · have hd : decide ((kk : Int) < (n : Int)) = true := decide_eq_true (by omega)
      have l2 : wr.cell? ⟨g, kk, none⟩ = some (.int .u8 ((xs.getD kk 0).toNat : Nat)) := (BW.out.cell (p := ⟨g, kk, none⟩) hg).trans (HC.out kk (by have := HN.out; omega))
      have hcall := pr1_calls (((xs.getD kk 0).toNat : Nat) : Int) wr
      obtain ⟨y, hy⟩ : ∃ y, xs.getD kk 0 = y := ⟨_, rfl⟩
      rw [hy] at l2 hcall
      have HY := Aside0.mk hy
      clear hy
      obtain ⟨b, hb⟩ : ∃ b, badC ((y.toNat : Nat) : Int) = b := ⟨_, rfl⟩
      rw [hb] at hcall
      have HBD := Aside0.mk (show badB y = b from hb)
      clear hb
      cases b with
      | true =>
        go_wp2_with fail
        refine hcall.mono ?_
        rintro e w' ⟨rfl, hw⟩
        subst hw
        go_wp2
        go_ret
        refine ⟨_, rfl, ?_, BW.out⟩
        rw [decide_eq_true (by omega)]
        refine (List.any_eq_true.2 ⟨xs.getD kk 0, ?_, ?_⟩).symm
        · have := HN.out
          rw [List.getD_eq_getElem?_getD, List.getElem?_eq_getElem (by omega)]
          exact List.getElem_mem _
        · rw [HY.out]; exact HBD.out
      | false =>
        go_wp2_with fail
        refine hcall.mono ?_
        rintro e w' ⟨rfl, hw⟩
        subst hw
        go_wp2
        go_roundg (n - (kk + 1))
        case measure => omega
        case rel =>
          refine ⟨kk + 1, by omega, Nat.le_refl _, by go_num, BW, ⟨fun j hj => ?_⟩⟩
          rcases Nat.lt_or_ge j kk with h | h
          · exact HA.out j h
          · obtain rfl : j = kk := by omega
            rw [HY.out]; exact HBD.out
    · have hd : decide ((kk : Int) < (n : Int)) = false := decide_eq_false (by omega)
      go_wp2
      go_ret
      refine ⟨_, rfl, ?_, BW.out⟩
      rw [decide_eq_false (by omega)]
      refine (List.any_eq_false.2 fun x hx => ?_).symm
      obtain ⟨j, hj, rfl⟩ := List.getElem_of_mem hx
      have := HN.out
      have h := HA.out j (by omega)
      rw [List.getD_eq_getElem?_getD, List.getElem?_eq_getElem hj] at h
      simpa using h
set_option maxRecDepth 100000 in
theorem cfb_calls (g n cp : Nat) (xs : List UInt8) (w : World) (hn : n = xs.length) (hbig : n ≤ 16) (hg : g < w.heap.size)
    (hc : ∀ j, j < xs.length → w.cell? ⟨g, j, none⟩ = some (.int .u8 ((xs.getD j 0).toNat : Nat))) :
    Calls Tryd.prog 121 #[.slice (some ⟨g, 0, none⟩) n cp, .func (.func 122) #[] #[]] w fun e w' => e = .returned (.bool (xs.any badB)) ∧ Below w.heap.size w w' := by
  have H := Aside0.mk (ixb_calls g n cp xs w hn hbig hg hc)
  clear hn hc
  go_enter Tryd.func121, Tryd.ntmps121
  go_wp2_with fail
  refine H.out.mono ?_
  rintro e w' ⟨i, rfl, hi, hb⟩
  have HI := Aside0.mk hi
  have HB := Aside0.mk hb
  clear hi hb
  go_wp2
  go_ret
  exact ⟨by rw [← HI.out]; rfl, HB.out⟩
theorem bytes_below (W : World) (s : ByteArray) : Below W.heap.size W (Lib.bytesWorld W 5 s) :=
  ⟨rfl, rfl, rfl, by rw [Lib.bytesWorld_size]; omega, fun k hk => Lib.bytesWorld_at_old W 5 s k hk⟩
set_option maxHeartbeats 2000000 in
set_option maxRecDepth 100000 in
theorem proper_calls (s : ByteArray) (q : Int) (b1 b2 : Bool) (w : World) : Calls Tryd.prog 107 #[.agg #[.string s, .int .i64 q, .bool b1, .bool b2]] w fun e w' => e = .returned (.bool (properB s q)) ∧ Below w.heap.size w w' := by
  have hu := Tryd.underlying68
  by_cases h1 : 1 ≤ s.size
  · have d1 : decide (1 ≤ (s.size : Int)) = true := decide_eq_true (by omega)
    by_cases h2 : s.size ≤ 16
    · have d2 : decide ((s.size : Int) ≤ 16) = true := decide_eq_true (by omega)
      have kc := fun W => Lib.run_convert_string_bytes (P := Tryd.prog) W 9 117 5 s (show Tryd.prog.underlying 9 = some .string from by kernel_rfl) (show Tryd.prog.underlying 117 = some (.slice 5) from by kernel_rfl) (by kernel_rfl)
      have X0 := blk_new w (.cells #[.string s, .int .i64 q, .bool b1, .bool b2] 68)
      have HB0 := Aside0.mk (below_step (below_alloc (Below.refl w.heap.size w) (.cells #[.string s, .int .i64 q, .bool b1, .bool b2] 68)) (bytes_below _ s))
      have X1 := Aside0.mk (blk_below X0 (bytes_below _ s))
      have HCF := Aside0.mk (fun cp => cfb_calls (w.alloc (.cells #[.string s, .int .i64 q, .bool b1, .bool b2] 68)).heap.size s.size cp s.data.toList (Lib.bytesWorld (w.alloc (.cells #[.string s, .int .i64 q, .bool b1, .bool b2] 68)) 5 s) rfl h2 (by rw [Lib.bytesWorld_size]; omega) (fun j hj => Lib.bytesWorld_cell _ 5 s j hj))
      clear X0
      rw [World.size_alloc] at HCF
      obtain ⟨b, hb⟩ : ∃ b, s.data.toList.any badB = b := ⟨_, rfl⟩
      rw [hb] at HCF
      have HBB := Aside0.mk hb
      clear hb
      cases b with
      | true =>
        have HF : Aside0 (properB s q = false) := ⟨by unfold properB; rw [HBB.out]; simp⟩
        go_enter Tryd.func107, Tryd.ntmps107
        go_wp2_with fail
        refine (HCF.out _).mono ?_
        rintro e w2 ⟨rfl, hb2⟩
        have HB2 := Aside0.mk (below_step HB0.out hb2)
        have X2 := blk_below X1.out hb2
        have x0 := (blk_cell X2 0).trans rfl
        have x1 := (blk_cell X2 1).trans rfl
        clear hb2 X2
        go_wp2
        go_ret
        exact ⟨by rw [HF.out]; rfl, HB2.out⟩
      | false =>
        by_cases h3 : 0 ≤ q
        · have d3 : decide (0 ≤ q) = true := decide_eq_true h3
          have HF : Aside0 (properB s q = decide (q ≤ 7)) := ⟨by unfold properB; rw [HBB.out]; simp [h1, h2, h3]⟩
          go_enter Tryd.func107, Tryd.ntmps107
          go_wp2_with fail
          refine (HCF.out _).mono ?_
          rintro e w2 ⟨rfl, hb2⟩
          have HB2 := Aside0.mk (below_step HB0.out hb2)
          have X2 := blk_below X1.out hb2
          have x0 := (blk_cell X2 0).trans rfl
          have x1 := (blk_cell X2 1).trans rfl
          clear hb2 X2
          go_wp2
          go_ret
          exact ⟨by rw [HF.out]; rfl, HB2.out⟩
        · have d3 : decide (0 ≤ q) = false := decide_eq_false h3
          have HF : Aside0 (properB s q = false) := ⟨by unfold properB; rw [d3]; simp⟩
          go_enter Tryd.func107, Tryd.ntmps107
          go_wp2_with fail
          refine (HCF.out _).mono ?_
          rintro e w2 ⟨rfl, hb2⟩
          have HB2 := Aside0.mk (below_step HB0.out hb2)
          have X2 := blk_below X1.out hb2
          have x0 := (blk_cell X2 0).trans rfl
          have x1 := (blk_cell X2 1).trans rfl
          clear hb2 X2
          go_wp2
          go_ret
          exact ⟨by rw [HF.out]; rfl, HB2.out⟩
    · have d2 : decide ((s.size : Int) ≤ 16) = false := decide_eq_false (by omega)
      have HF : Aside0 (properB s q = false) := ⟨by unfold properB; rw [decide_eq_false h2]; simp⟩
      go_enter Tryd.func107, Tryd.ntmps107
      go_wp2
      go_ret
      exact ⟨by rw [HF.out]; rfl, below_alloc (Below.refl _ _) _⟩
  · have d1 : decide (1 ≤ (s.size : Int)) = false := decide_eq_false (by omega)
    have HF : Aside0 (properB s q = false) := ⟨by unfold properB; rw [decide_eq_false h1]; simp⟩
    go_enter Tryd.func107, Tryd.ntmps107
    go_wp2
    go_ret
    exact ⟨by rw [HF.out]; rfl, below_alloc (Below.refl _ _) _⟩
theorem ownsMap_below {H : Type} {P : Program} {k : TypeId} {R : Value → Option (DataW H × List MemPlace)} {w w1 : World} {b n : Nat} {D : DataW H} (h : w.ownsMap P k R b n D) (hb : Below w.heap.size w w1) : w1.ownsMap P k R b n D := by
  obtain ⟨es, clock, h1, h2⟩ := h
  exact ⟨es, clock, blk_below h1 hb, h2⟩
def keysE (xs : List (S68)) : List Lit := xs.map fun x => .string x.f0.data.toList
def setE (xs : List (S68)) : DataW Unit := setOf (.lit (.bool true)) (keysE xs)
theorem setE_snoc (xs : List (S68)) (x : S68) : setE (xs ++ [x]) = (setE xs).put (.string x.f0.data.toList) (.lit (.bool true)) := by
  unfold setE keysE
  rw [List.map_append, List.map_cons, List.map_nil, setOf_snoc]
theorem lit_inj {x y : ByteArray} (h : Lit.string x.data.toList = Lit.string y.data.toList) : x = y := by
  injection h with h
  cases x; cases y
  simpa using h
theorem addKeys_len (xs : List ByteArray) : ∀ (L : List ByteArray), ((xs.map fun x => Lit.string x.data.toList).foldl addKey (L.map fun x => Lit.string x.data.toList)).length ≤ L.length + xs.length ∧ (((xs.map fun x => Lit.string x.data.toList).foldl addKey (L.map fun x => Lit.string x.data.toList)).length = L.length + xs.length ↔ (dupFree xs = true ∧ ∀ x ∈ xs, ¬ x ∈ L)) := by
  induction xs with
  | nil => intro L; simp [dupFree]
  | cons x xs ih =>
    intro L
    rw [List.map_cons, List.foldl_cons]
    by_cases hx : x ∈ L
    · have hadd : addKey (L.map fun x => Lit.string x.data.toList) (.string x.data.toList) = L.map fun x => Lit.string x.data.toList := by
        unfold addKey
        rw [if_pos]
        rw [List.any_map, List.any_eq_true]
        exact ⟨x, hx, WideAt.sameKey_self (a := .string _) trivial⟩
      rw [hadd]
      have h := ih L
      refine ⟨by have := h.1; simp; omega, ⟨fun he => ?_, fun he => absurd hx (he.2 x (by simp))⟩⟩
      have := h.1
      simp at he
      omega
    · have hadd : addKey (L.map fun x => Lit.string x.data.toList) (.string x.data.toList) = (L.map fun x => Lit.string x.data.toList) ++ [.string x.data.toList] := by
        unfold addKey
        rw [if_neg]
        rw [List.any_map, List.any_eq_true]
        rintro ⟨y, hy, h⟩
        exact hx (lit_inj (WideAt.sameKey_eq h) ▸ hy)
      rw [hadd]
      have h := ih (L ++ [x])
      rw [List.map_append, List.map_cons, List.map_nil] at h
      refine ⟨by have := h.1; simp at this ⊢; omega, ?_⟩
      have h2 := h.2
      simp only [List.length_append, List.length_cons, List.length_nil] at h2 ⊢
      rw [show L.length + (xs.length + 1) = L.length + (0 + 1) + xs.length by omega, h2]
      simp only [dupFree, List.mem_append, List.mem_singleton, List.mem_cons, List.not_mem_nil, or_false, Bool.and_eq_true, Bool.not_eq_true', List.any_eq_false, decide_eq_true_eq, not_or]
      constructor
      · rintro ⟨hd, hm⟩
        refine ⟨⟨fun y hy => (hm y hy).2, hd⟩, fun y hy => ?_⟩
        rcases hy with rfl | hy
        · exact hx
        · exact (hm y hy).1
      · rintro ⟨⟨ha, hd⟩, hm⟩
        exact ⟨hd, fun y hy => ⟨hm y (.inr hy), ha y hy⟩⟩
theorem setE_size (xs : List (S68)) : Maps.size (setE xs) ≤ xs.length ∧ (Maps.size (setE xs) = xs.length ↔ dupFree (xs.map (·.f0)) = true) := by
  have h := addKeys_len (xs.map (·.f0)) []
  have hs : Maps.size (setE xs) = ((xs.map (·.f0)).map (fun x => Lit.string x.data.toList) |>.foldl addKey []).length := by
    unfold setE keysE
    rw [size_setOf _ _ (fun x hx => by obtain ⟨y, _, rfl⟩ := List.mem_map.1 hx; trivial), List.map_map]
    rfl
  rw [hs]
  simpa using h
def validD (l : List (S68)) : Bool := l.all (fun x => properB x.f0 x.f1) && decide (l.length ≤ 200) && dupFree (l.map (·.f0))
theorem rdE {l : List (S68)} {i : Nat} (h : i < l.length) : rd_T68 l (i : Int) = l[i] := by
  unfold rd_T68
  rw [Int.toNat_natCast, List.getD_eq_getElem?_getD, List.getElem?_eq_getElem h]
  rfl
theorem validD_end (l : List (S68)) (h : l.all (fun x => properB x.f0 x.f1) = true) : validD l = (decide (l.length ≤ 200) && ((Maps.size (setE l) : Int) == (l.length : Int))) := by
  unfold validD
  rw [h, Bool.true_and]
  congr 1
  rw [Bool.eq_iff_iff, beq_iff_eq, ← (setE_size l).2]
  omega
theorem idxE_hit (t : ByteArray) (l : List (S68)) : ∀ (kk : Nat) (i : Int), (∀ j, j < kk → ¬ (rd_T68 l (j : Int)).f0.toList = t.toList) → kk < l.length → (rd_T68 l (kk : Int)).f0.toList = t.toList → idxE t l i = i + kk := by
  induction l with
  | nil => intro kk i _ h; simp at h
  | cons x l ih =>
    intro kk i hn hk he
    cases kk with
    | zero =>
      rw [rdE hk] at he
      unfold idxE
      rw [if_pos (by simpa using he)]
      simp
    | succ kk =>
      have h0 := hn 0 (by omega)
      rw [rdE (by simp)] at h0
      unfold idxE
      have hk' : kk < l.length := by simpa using hk
      have h1 : ∀ j, j < kk → ¬ (rd_T68 l (j : Int)).f0.toList = t.toList := fun j hj => by
        have h := hn (j + 1) (by omega)
        rw [rdE (by simp; omega)] at h
        rw [rdE (by omega)]
        simpa using h
      have h2 : (rd_T68 l (kk : Int)).f0.toList = t.toList := by
        rw [rdE hk] at he
        rw [rdE hk']
        simpa using he
      rw [if_neg (by simpa using h0), ih kk (i + 1) h1 hk' h2]
      omega
theorem idxE_miss (t : ByteArray) (l : List (S68)) : ∀ (i : Int), (∀ j, j < l.length → ¬ (rd_T68 l (j : Int)).f0.toList = t.toList) → idxE t l i = -1 := by
  induction l with
  | nil => intro i _; rfl
  | cons x l ih =>
    intro i hn
    have h0 := hn 0 (by simp)
    rw [rdE (by simp)] at h0
    unfold idxE
    have h1 : ∀ j, j < l.length → ¬ (rd_T68 l (j : Int)).f0.toList = t.toList := fun j hj => by
      have h := hn (j + 1) (by simpa using hj)
      rw [rdE (by simpa using hj)] at h
      rw [rdE hj]
      simpa using h
    rw [if_neg (by simpa using h0), ih (i + 1) h1]
set_option maxHeartbeats 1000000 in
set_option maxRecDepth 100000 in
theorem ix1_calls (s : ByteArray) (q : Int) (b1 b2 : Bool) (B : Nat) (t : ByteArray) (w : World) (hB : B < w.heap.size) (hc : w.cell? ⟨B, 0, none⟩ = some (.string t)) : Calls Tryd.prog 137 #[.agg #[.string s, .int .i64 q, .bool b1, .bool b2], .pointer (some ⟨B, 0, none⟩)] w fun e w' => e = .returned (.bool (s.toList == t.toList)) ∧ Below w.heap.size w w' := by
  have hu := Tryd.underlying68
  have hne : B ≠ w.heap.size := by omega
  have hc2 : (w.alloc (.cells #[.string s, .int .i64 q, .bool b1, .bool b2] 68)).cell? ⟨B, 0, none⟩ = some (.string t) := ((below_alloc (Below.refl w.heap.size w) _).cell (p := ⟨B, 0, none⟩) hB).trans hc
  clear hc
  go_enter Tryd.func137, Tryd.ntmps137
  go_wp2
  go_ret
  exact ⟨rfl, below_alloc (Below.refl _ _) _⟩
set_option maxHeartbeats 1000000 in
set_option maxRecDepth 100000 in
theorem ixe_calls (A0 : Option Addr) (c0 : Nat) (l0 : List (S68)) (B : Nat) (t : ByteArray) (w : World) (hC : Kd.C k68 w A0 l0.length l0) (hB : B < w.heap.size) (hc : w.cell? ⟨B, 0, none⟩ = some (.string t)) :
    Calls Tryd.prog 136 #[.slice A0 l0.length c0, .func (.func 137) #[] #[.pointer (some ⟨B, 0, none⟩)]] w fun e w' => e = .returned (.int .i64 (idxE t l0 0)) ∧ Below w.heap.size w w' := by
  have hu := Tryd.underlying68
  have HR := Aside0.mk hC
  have HCB := Aside0.mk hc
  have hbig := hC.2.1
  clear hC hc
  go_enter Tryd.func136, Tryd.ntmps136
  go_wp2_with fail
  go_loopg [5, 8] l0.length (fun gg _ s8 wr => ∃ kk : Nat, kk ≤ l0.length ∧ l0.length - kk ≤ gg ∧ s8 = .int .i64 kk ∧ Aside0 (Below w.heap.size w wr) ∧ Aside0 (∀ j, j < kk → ¬ (rd_T68 l0 (j : Int)).f0.toList = t.toList))
  case atStart => exact ⟨0, Nat.zero_le _, by omega, rfl, ⟨Below.refl _ w⟩, ⟨fun j hj => absurd hj (Nat.not_lt_zero _)⟩⟩
  case round =>
    obtain ⟨kk, hkk, hgk, rfl, BW, HA⟩ := hrel
    by_cases hlt : kk < l0.length
    · have hd : decide ((kk : Int) < (l0.length : Int)) = true := decide_eq_true (by omega)
      obtain ⟨ad, e0, q0, q1, q2, q3⟩ := at_T68 (Kd.C_below HR.out BW.out) (kk : Int) (by omega) (by omega)
      subst e0
      simp only [Int.toNat_natCast] at q0 q1 q2 q3
      have hcell : wr.cell? ⟨B, 0, none⟩ = some (.string t) := (BW.out.cell (p := ⟨B, 0, none⟩) hB).trans HCB.out
      have hcall := ix1_calls (rd_T68 l0 (kk : Int)).f0 (rd_T68 l0 (kk : Int)).f1 (rd_T68 l0 (kk : Int)).f2 (rd_T68 l0 (kk : Int)).f3 B t wr (Nat.lt_of_lt_of_le hB BW.out.size) hcell
      clear hcell
      obtain ⟨b, hb⟩ : ∃ b, ((rd_T68 l0 (kk : Int)).f0.toList == t.toList) = b := ⟨_, rfl⟩
      rw [hb] at hcall
      have HBD := Aside0.mk hb
      have HCALL := Aside0.mk hcall
      clear hb hcall
      cases b with
      | true =>
        go_wp2_with fail
        refine HCALL.out.mono ?_
        rintro e w' ⟨rfl, hw⟩
        go_wp2
        go_ret
        refine ⟨?_, below_step BW.out hw⟩
        rw [idxE_hit t l0 kk 0 HA.out hlt (by simpa using HBD.out), Int.zero_add]
        rfl
      | false =>
        go_wp2_with fail
        refine HCALL.out.mono ?_
        rintro e w' ⟨rfl, hw⟩
        have BW2 := Aside0.mk (below_step BW.out hw)
        clear hw
        go_wp2
        go_roundg (l0.length - (kk + 1))
        case measure => omega
        case rel =>
          refine ⟨kk + 1, by omega, Nat.le_refl _, by go_num, BW2, ⟨fun j hj => ?_⟩⟩
          rcases Nat.lt_or_ge j kk with h | h
          · exact HA.out j h
          · obtain rfl : j = kk := by omega
            simpa using HBD.out
    · have hd : decide ((kk : Int) < (l0.length : Int)) = false := decide_eq_false (by omega)
      go_wp2
      go_ret
      refine ⟨?_, BW.out⟩
      rw [idxE_miss t l0 0 (fun j hj => HA.out j (by omega))]
      rfl
end opw
end Go.Proofs.YtagkhoeidjlahaaDoor.G
namespace Go.Proofs.YtagkhoeidjlahaaDoor.G
open Go.RowKit Go.Proofs.YtagkhoeidjlahaaDoorW.PrintWords Go.Proofs.YtagkhoeidjlahaaDoorW.PrintLast Go.Proofs.YtagkhoeidjlahaaDoorW.PrintMore
attribute [local go_sem] max2_int min2_int max_two min_two max_three min_three max_four min_four
set_option linter.unusedVariables false
set_option linter.unusedSimpArgs false
def opdict_Valid.f (l0 : List (S68)) : Option Bool := if l0.length < 17592186044416 then some (validD l0) else none
open Go.Maps Go.WideMaps in
set_option maxHeartbeats 2000000 in
set_option maxRecDepth 100000 in

theorem opdict_Valid.calls (A0 : Option Addr) (c0 : Nat) (l0 : List (S68)) (r : Bool) (w : World) (hr0 : Kd.C k68 w A0 l0.length l0) (hc0 : l0.length ≤ c0) (h : opdict_Valid.f l0 = some r) :
    Calls Tryd.prog 87 #[.slice A0 l0.length c0] w fun e w' => e = .returned (.bool r) ∧ Below w.heap.size w w' := by
  unfold opdict_Valid.f at h
  split at h
  case isFalse => cases h
  rename_i hlen
  obtain rfl := Option.some.inj h
  have HR := Aside0.mk hr0
  have HC := Aside0.mk hc0
  have hmm := @run_makeMap Tryd.prog
  have hu := Tryd.underlying68
  have law9 : Keyed Tryd.prog 9 := string_keyed (show Tryd.prog.underlying 9 = some .string from by kernel_rfl)
  have u9 : Tryd.prog.underlying 9 = some .string := by kernel_rfl
  have uM : Tryd.prog.underlying 110 = some (.map 9 4) := by kernel_rfl
  have u4 : Tryd.prog.underlying 4 = some .bool := by kernel_rfl
  clear hr0 hc0 h
  go_enter Tryd.func87, Tryd.ntmps87
  go_wp2_with fail
  go_loopg [5, 9] l0.length (fun gg _ v9 wr => ∃ kk : Nat, kk ≤ l0.length ∧ l0.length - kk ≤ gg ∧ v9 = .int .i64 kk ∧ Aside0 (wr.ownsMap Tryd.prog 9 (plainElem Tryd.prog 4) w.heap.size kk (setE (l0.take kk))) ∧ Aside0 (Below w.heap.size w wr) ∧ Aside0 ((l0.take kk).all (fun x => properB x.f0 x.f1) = true))
  case atStart => exact ⟨0, Nat.zero_le _, by omega, rfl, ⟨World.ownsMap_made _ _ _ _⟩, ⟨below_alloc (Below.refl _ _) _⟩, ⟨rfl⟩⟩
  case round =>
    obtain ⟨kk, hkk, hgk, rfl, HO, HB, HA⟩ := hrel
    by_cases hlt : kk < l0.length
    · have hd : decide ((kk : Int) < (l0.length : Int)) = true := decide_eq_true (by omega)
      obtain ⟨ad, e0, q0, q1, q2, q3⟩ := at_T68 (Kd.C_below HR.out HB.out) (kk : Int) (by omega) (by omega)
      subst e0
      simp only [Int.toNat_natCast] at q0 q1 q2 q3
      have hx : rd_T68 l0 (kk : Int) = l0[kk] := rdE hlt
      obtain ⟨x, hX⟩ : ∃ x, rd_T68 l0 (kk : Int) = x := ⟨_, rfl⟩
      rw [hX] at q0 q1 q2 q3
      have HX := Aside0.mk (hx.symm.trans hX)
      clear hx hX
      obtain ⟨b, hb⟩ : ∃ b, properB x.f0 x.f1 = b := ⟨_, rfl⟩
      have HP := Aside0.mk hb
      have HCALL := Aside0.mk (fun W => proper_calls x.f0 x.f1 x.f2 x.f3 W)
      rw [hb] at HCALL
      clear hb
      cases b with
      | false =>
        have HF : Aside0 (validD l0 = false) := ⟨by
          unfold validD
          have : l0.all (fun x => properB x.f0 x.f1) = false := List.all_eq_false.2 ⟨x, HX.out ▸ List.getElem_mem hlt, by rw [HP.out]; simp⟩
          rw [this]
          rfl⟩
        go_wp2_with fail
        refine (HCALL.out _).mono ?_
        rintro e w2 ⟨rfl, hb⟩
        have HB2 := Aside0.mk (below_step (below_alloc HB.out _) hb)
        clear hb
        go_wp2
        go_ret
        exact ⟨by rw [HF.out]; rfl, HB2.out⟩
      | true =>
        have hkey : keyOf Tryd.prog 9 (.string x.f0) = some (.string x.f0.data.toList) := keyOf_string_mk u9 (by
          have h := HP.out
          unfold properB at h
          simp only [Bool.and_eq_true, decide_eq_true_eq] at h
          unfold maxLen
          omega)
        have HTK : Aside0 (l0.take (kk + 1) = l0.take kk ++ [x]) := ⟨by rw [List.take_add_one, List.getElem?_eq_getElem hlt, HX.out]; rfl⟩
        go_wp2_with fail
        refine (HCALL.out _).mono ?_
        rintro e w2 ⟨rfl, hb⟩
        have X2 := blk_below (blk_new wr (.cells #[.string x.f0, .int .i64 x.f1, .bool x.f2, .bool x.f3] 68)) hb
        have x0 := (blk_cell X2 0).trans rfl
        have HO2 := Aside0.mk (ownsMap_below (HO.out.alloc (.cells #[.string x.f0, .int .i64 x.f1, .bool x.f2, .bool x.f3] 68)) hb)
        have HB2 := Aside0.mk (below_step (below_alloc HB.out _) hb)
        clear hb X2
        go_wp2_with (first
          | (at_mapUpdate; refine wpList_mapUpdate_own _ rfl _ _ _ 110 rfl 9 4 law9 uM (plainElem (H := Unit) Tryd.prog 4) w.heap.size kk _ rfl HO2.out (by unfold maxLen; omega) _ _ _ rfl rfl hkey _ [] (plainElem_bool u4 true) ?_; intro w3 hown1 hgrow1; have HO3 := Aside0.mk hown1; have HB3 := Aside0.mk (HB2.out.grown hgrow1 HB2.out.size (fun j hj => by cases hj; exact Nat.le_refl _)); clear hown1 hgrow1)
          | go_in)
        go_roundg (l0.length - (kk + 1))
        case measure => omega
        case rel =>
          refine ⟨kk + 1, by omega, Nat.le_refl _, by go_num, ⟨?_⟩, HB3, ⟨?_⟩⟩
          · rw [HTK.out, setE_snoc]
            exact HO3.out
          · rw [HTK.out, List.all_append, HA.out]
            simp [HP.out]
    · have hd : decide ((kk : Int) < (l0.length : Int)) = false := decide_eq_false (by omega)
      obtain rfl : kk = l0.length := by omega
      rw [List.take_length] at HO HA
      have HE := Aside0.mk (validD_end l0 HA.out)
      by_cases h2 : l0.length ≤ 200
      · have d2 : decide ((l0.length : Int) ≤ 200) = true := decide_eq_true (by omega)
        have hln := fun ty => HO.out.len uM ty
        go_wp2
        go_ret
        exact ⟨by rw [HE.out, decide_eq_true h2, Bool.true_and]; rfl, HB.out⟩
      · have d2 : decide ((l0.length : Int) ≤ 200) = false := decide_eq_false (by omega)
        go_wp2
        go_ret
        exact ⟨by rw [HE.out, decide_eq_false h2]; rfl, HB.out⟩
end Go.Proofs.YtagkhoeidjlahaaDoor.G
