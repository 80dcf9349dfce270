-- Written by pack2.py, a program of this session: this session's texts and those that the kit's printer wrote for this claim, pruned to what the claims use.
import Derived.Test.YtagkhoeidjlahaaDoorCBp2
import Derived.Test.YtagkhoeidjlahaaDoorCBp10
import Derived.Test.YtagkhoeidjlahaaDoorCBp13
namespace Go.Proofs.YtagkhoeidjlahaaDoor.G
open Go.RowKit Go.Proofs.YtagkhoeidjlahaaDoorW.PrintWords Go.Proofs.YtagkhoeidjlahaaDoorW.PrintLast Go.Proofs.YtagkhoeidjlahaaDoorW.PrintMore
attribute [local go_sem] max2_int min2_int max_two min_two max_three min_three max_four min_four
set_option linter.unusedVariables false
set_option linter.unusedSimpArgs false
def vinculumref43_Places.l0 : Nat → List (S36) → List Int → List Int → Int → Option (List Int × Int)
  | 0, _, _, _, _ => none
  | k + 1, x1, x6, x8, x9 => if x9 < (x1.length : Int) then (if 0 ≤ x9 then (if x9 < (x6.length : Int) then (if (rd x6 x9) = 3 then (if 0 ≤ (wrap64 (x9 - 1)) then (if (wrap64 (x9 - 1)) < (x6.length : Int) then (if (rd x6 (wrap64 (x9 - 1))) = 3 then (vinculumref43_Places.l0 k x1 x6 x8 (wrap64 (x9 + 1))) else (if x8.length < 17592186044416 then (vinculumref43_Places.l0 k x1 x6 (x8 ++ [x9]) (wrap64 (x9 + 1))) else (none))) else (none)) else (none)) else (if (rd x6 x9) = 2 then (if 0 ≤ (wrap64 (x9 - 1)) then (if (wrap64 (x9 - 1)) < (x6.length : Int) then (if (rd x6 (wrap64 (x9 - 1))) = 3 then (vinculumref43_Places.l0 k x1 x6 x8 (wrap64 (x9 + 1))) else (if x8.length < 17592186044416 then (vinculumref43_Places.l0 k x1 x6 (x8 ++ [x9]) (wrap64 (x9 + 1))) else (none))) else (none)) else (none)) else (vinculumref43_Places.l0 k x1 x6 x8 (wrap64 (x9 + 1))))) else (none)) else (none)) else (some (x8, 0))
def vinculumref43_Places.f (k : Nat) (l0 : List (S68)) (l1 : List (S36)) : Option (List Int × Int) := (vinculumref26_Classes.f k l0 l1).bind fun bt313 => (if bt313.2 = 0 then (if (l1.length : Int) = 0 then (some (([] : List Int), 8)) else (vinculumref43_Places.l0 k l1 bt313.1 (([0] : List Int)) 1)) else (some (([] : List Int), bt313.2)))
set_option maxHeartbeats 8000000 in
set_option maxRecDepth 100000 in
theorem vinculumref43_Places.calls (k : Nat) (A0 : Option Addr) (c0 : Nat) (l0 : List (S68)) (A1 : Option Addr) (c1 : Nat) (l1 : List (S36)) (r1 : List Int) (r2 : Int) (w : World) (hr0 : Kd.C k68 w A0 l0.length l0) (hc0 : l0.length ≤ c0) (hr1 : Kd.C k36 w A1 l1.length l1) (hc1 : l1.length ≤ c1) (h : vinculumref43_Places.f k l0 l1 = some (r1, r2)) :
    Calls Tryd.prog 20 #[.slice A0 l0.length c0, .slice A1 l1.length c1] w fun e w' => ∃ v0_ : Value, e = .returned (.tuple #[v0_, .int .i64 r2]) ∧ Kd.R (Kd.int .i64) 3 w' w.heap.size (fun _ => True) v0_ r1 ∧ Below w.heap.size w w' := by
  have HR0 := Aside0.mk hr0
  have HC0 := Aside0.mk hc0
  clear hr0 hc0
  have HR1 := Aside0.mk hr1
  have HC1 := Aside0.mk hc1
  clear hr1 hc1
  have HB := Aside0.mk (Below.refl w.heap.size w)
  have H : ((vinculumref26_Classes.f k l0 l1).bind fun bt313 => (if bt313.2 = 0 then (if (l1.length : Int) = 0 then (some (([] : List Int), 8)) else (vinculumref43_Places.l0 k l1 bt313.1 (([0] : List Int)) 1)) else (some (([] : List Int), bt313.2)))) = some (r1, r2) := h
  clear h
  replace H := Option.bind_eq_some_iff.mp H
  obtain ⟨⟨t313, t314⟩, A30, H⟩ := H
  replace H : (if t314 = 0 then (if (l1.length : Int) = 0 then (some (([] : List Int), 8)) else (vinculumref43_Places.l0 k l1 t313 (([0] : List Int)) 1)) else (some (([] : List Int), t314))) = some (r1, r2) := H
  have A3 := Aside0.mk A30
  clear A30
  by_cases c4 : t314 = 0
  · rw [if_pos c4] at H
    have c4b0 : (t314 == 0) = true := beq_iff_eq.mpr c4
    have c4b1 : (t314 != 0) = false := bne_eq_false_iff_eq.mpr c4
    clear c4
    by_cases c5 : (l1.length : Int) = 0
    · rw [if_pos c5] at H
      have c5b0 : ((l1.length : Int) == 0) = true := beq_iff_eq.mpr c5
      have c5b1 : ((l1.length : Int) != 0) = false := bne_eq_false_iff_eq.mpr c5
      clear c5
      simp only [Option.some.injEq, Prod.mk.injEq] at H
      obtain ⟨rfl, rfl⟩ := H
      go_enter Tryd.func20, Tryd.ntmps20
      go_wp2_with (first | ((with_reducible refine gate_callee (f := 22) rfl ?_); refine goesL_ (some 13) rfl rfl Tryd.func22 (by kernel_rfl) rfl #[.slice A0 l0.length c0, .slice A1 l1.length c1] rfl (by (try simp only [List.map_toArray, List.map_cons, List.map_nil]); first | done | rfl | (simp only [List.length_drop, List.length_take]; rfl)) ?_; (with_reducible refine (vinculumref26_Classes.calls k _ _ l0 _ _ l1 t313 t314 _ ?side1 ?side2 ?side3 ?side4 A3.out).mono ?_); (case side1 => repeat (first | exact HR0.out | (with_reducible refine Kd.C_alloc ?_ _) | (with_reducible refine Kd.C_drewN ?_ _) | (with_reducible refine Kd.C_drew ?_))); (case side2 => exact HC0.out); (case side3 => repeat (first | exact HR1.out | (with_reducible refine Kd.C_alloc ?_ _) | (with_reducible refine Kd.C_drewN ?_ _) | (with_reducible refine Kd.C_drew ?_))); (case side4 => exact HC1.out); rintro e w6 ⟨v315, rfl, ho0, hb⟩; refine ⟨_, rfl, ?_⟩; have n0_ := Aside0.mk (Kd.R_lower ho0 (below_size (by repeat (first | (with_reducible first | exact HB.out | apply below_alloc | apply pw_below_drewN | apply below_drew1) | exact HB.out)))); have n1_ := Aside0.mk (below_step (by repeat (first | (with_reducible first | exact HB.out | apply below_alloc | apply pw_below_drewN | apply below_drew1) | exact HB.out)) hb); clear HB; have HO316 := n0_; have HB := n1_; clear n0_ n1_; (try clear hb); (try clear hb2); (try clear hk); (try clear hi); (try clear ho0)))
      go_ret2
      exact ⟨_, by first | rfl | (simp [errW_none, errW_some] <;> rfl) | (simp [*, errW_none, errW_some] <;> rfl), by first | exact Kd.R_nil _ _ _ _ _ | exact Kd.N_nil _ _ _ _ _ | exact Kd.V_nil _ _ _ _ _ | exact Kd.Q_nil _ _ _ _ _ | exact Kd.S_nil _ _ _ _ _, by repeat (first | (with_reducible first | exact HB.out | apply below_alloc | apply pw_below_drewN | apply below_drew1) | exact HB.out)⟩
    · rw [if_neg c5] at H
      have c5b0 : ((l1.length : Int) == 0) = false := beq_eq_false_iff_ne.mpr c5
      have c5b1 : ((l1.length : Int) != 0) = true := bne_iff_ne.mpr c5
      have c5b2 : ¬ (l1 = []) := fun h_ => c5 (by rw [h_]; rfl)
      obtain ⟨y317, hy317⟩ : ∃ y_ : List Int, y_ = (([0] : List Int)) := ⟨_, rfl⟩
      replace H : (vinculumref43_Places.l0 k l1 t313 y317 1) = some (r1, r2) := by first | (rw [hy317]; with_reducible exact H) | (have H2_ := (Option.bind_some _ _).symm.trans H; rw [hy317]; with_reducible exact H2_) | (have H2_ := (Option.bind_some _ _).symm.trans H; with_reducible exact H2_) | with_reducible exact H | (rw [hy317]; exact H) | exact H
      have Ny317 := Aside0.mk hy317
      clear hy317
      have H' := Aside0.mk H
      clear H
      go_enter Tryd.func20, Tryd.ntmps20
      go_wp2_with (first | ((with_reducible refine gate_callee (f := 22) rfl ?_); refine goesL_ (some 13) rfl rfl Tryd.func22 (by kernel_rfl) rfl #[.slice A0 l0.length c0, .slice A1 l1.length c1] rfl (by (try simp only [List.map_toArray, List.map_cons, List.map_nil]); first | done | rfl | (simp only [List.length_drop, List.length_take]; rfl)) ?_; (with_reducible refine (vinculumref26_Classes.calls k _ _ l0 _ _ l1 t313 t314 _ ?side1 ?side2 ?side3 ?side4 A3.out).mono ?_); (case side1 => repeat (first | exact HR0.out | (with_reducible refine Kd.C_alloc ?_ _) | (with_reducible refine Kd.C_drewN ?_ _) | (with_reducible refine Kd.C_drew ?_))); (case side2 => exact HC0.out); (case side3 => repeat (first | exact HR1.out | (with_reducible refine Kd.C_alloc ?_ _) | (with_reducible refine Kd.C_drewN ?_ _) | (with_reducible refine Kd.C_drew ?_))); (case side4 => exact HC1.out); rintro e w7 ⟨v315, rfl, ho0, hb⟩; refine ⟨_, rfl, ?_⟩; have n0_ := Aside0.mk (Kd.R_lower ho0 (below_size (by repeat (first | (with_reducible first | exact HB.out | apply below_alloc | apply pw_below_drewN | apply below_drew1) | exact HB.out)))); have n1_ := Aside0.mk (below_step (by repeat (first | (with_reducible first | exact HB.out | apply below_alloc | apply pw_below_drewN | apply below_drew1) | exact HB.out)) hb); clear HB; have HO316 := n0_; have HB := n1_; clear n0_ n1_; (try clear hb); (try clear hb2); (try clear hk); (try clear hi); (try clear ho0)) | ((with_reducible refine gate_dst (N := 24) rfl ?_); refine Kd.R_lit (Kd.int .i64) _ 3 ?hg (N := 24) ?hd (xs := ([0] : List Int)) (inner := [.int .i64 0]) (ok := fun _ => True) (okp := fun _ => True) ?hr ?hp (fun _ hk => hk) trivial (Below.refl _ _) (Nat.le_refl _) (by simp) ?_; (case hd => rfl); (case hg => rfl); (case hr => first | (go_simp; done) | (go_simp; rfl)); (case hp => exact (Reps.one (show Kd.M (Kd.int .i64) _ _ _ 0 [.int .i64 0] from rfl) (Reps.none _ _))); intro v318 w8 ho9 hb hg_ hnew_; clear hg_ hnew_; (first | rw [← Ny317.out] at ho9 | (simp only [Int.reduceToNat] at ho9; rw [← Ny317.out] at ho9)); have n0_ := Aside0.mk (Kd.R_elder' (by (with_reducible repeat (first | apply Kd.R_alloc | apply Kd.R_drewN | apply Kd.R_drew)); exact HO316.out) (Kd.R_base ho9) hb); have n1_ := Aside0.mk (Kd.R_lower (Kd.R_new' ho9 (Kd.R_lt (by (with_reducible repeat (first | apply Kd.R_alloc | apply Kd.R_drewN | apply Kd.R_drew)); exact HO316.out))) (below_size (by repeat (first | (with_reducible first | exact HB.out | apply below_alloc | apply pw_below_drewN | apply below_drew1) | exact HB.out)))); have n2_ := Aside0.mk (below_step (by repeat (first | (with_reducible first | exact HB.out | apply below_alloc | apply pw_below_drewN | apply below_drew1) | exact HB.out)) hb); clear HO316; clear HB; have HO316 := n0_; have HO319 := n1_; have HB := n2_; clear n0_ n1_ n2_; clear hb ho9))
      go_loopg [8, 9] k (fun kq v8 v9 w' => ∃ (x8_1 : List Int) (x9_1 : Int), v9 = .int .i64 x9_1 ∧ Aside0 (vinculumref43_Places.l0 kq l1 t313 x8_1 x9_1 = some (r1, r2)) ∧ Aside0 (kq ≤ k) ∧ Aside0 (Kd.R (Kd.int .i64) 3 w' w.heap.size (fun k_ => some k_ ≠ (v8 : Value).ownBlock) v315 t313) ∧ Aside0 (Kd.R (Kd.int .i64) 3 w' w.heap.size (fun k_ => some k_ ≠ (v315 : Value).ownBlock) v8 x8_1) ∧ Aside0 (Below w.heap.size w w'))
      case atStart => exact ⟨(y317), (1), (by first | rfl | (simp; done) | (simp [*]; done)), H', ⟨Nat.le_refl _⟩, ⟨by (with_reducible repeat (first | apply Kd.R_alloc | apply Kd.R_drewN | apply Kd.R_drew)); exact Kd.R_mono HO316.out (fun _ hk => hk.2)⟩, ⟨by (with_reducible repeat (first | apply Kd.R_alloc | apply Kd.R_drewN | apply Kd.R_drew)); exact Kd.R_mono HO319.out (fun _ hk => hk.2)⟩, ⟨by repeat (first | (with_reducible first | exact HB.out | apply below_alloc | apply pw_below_drewN | apply below_drew1) | exact HB.out)⟩⟩
      case round =>
        clear H'
        try clear c1
        try clear c2
        try clear p2
        try clear c4
        try clear c4b0
        try clear c4b1
        try clear c5
        try clear c5b0
        try clear c5b1
        try clear c5b2
        obtain ⟨x8_1, x9_1, rfl, HA, HK1, HO_6, HO_8, HB⟩ := hrel
        cases gk with
        | zero => exact absurd HA.out (by simp [vinculumref43_Places.l0])
        | succ k1 =>
          have H := HA.out
          clear HA
          simp only [vinculumref43_Places.l0] at H
          by_cases c10 : x9_1 < (l1.length : Int)
          · rw [if_pos c10] at H
            have c10b0 : decide (x9_1 < (l1.length : Int)) = true := decide_eq_true c10
            clear c10
            by_cases c11 : 0 ≤ x9_1
            · rw [if_pos c11] at H
              have c11b0 : decide (0 ≤ x9_1) = true := decide_eq_true c11
              clear c11
              by_cases c12 : x9_1 < (t313.length : Int)
              · rw [if_pos c12] at H
                have c12b0 : decide (x9_1 < (t313.length : Int)) = true := decide_eq_true c12
                clear c12
                by_cases c13 : (rd t313 x9_1) = 3
                · rw [if_pos c13] at H
                  have c13b0 : ((rd t313 x9_1) == 3) = true := beq_iff_eq.mpr c13
                  have c13b1 : ((rd t313 x9_1) != 3) = false := bne_eq_false_iff_eq.mpr c13
                  clear c13
                  obtain ⟨ji14, hji14⟩ : ∃ j_ : Int, (wrap64 (x9_1 - 1)) = j_ := ⟨_, rfl⟩
                  replace H : (if 0 ≤ (ji14) then (if (ji14) < (t313.length : Int) then (if (rd t313 (ji14)) = 3 then (vinculumref43_Places.l0 k1 l1 t313 x8_1 (wrap64 (x9_1 + 1))) else (if x8_1.length < 17592186044416 then (vinculumref43_Places.l0 k1 l1 t313 (x8_1 ++ [x9_1]) (wrap64 (x9_1 + 1))) else (none))) else (none)) else (none)) = some (r1, r2) := by first | (rw [hji14] at H; exact H) | (simp only [hji14] at H ⊢; exact H)
                  have hji14w : (IntKind.i64.wrap (x9_1 - 1)) = ji14 := (i64_w _).trans hji14
                  by_cases c15 : 0 ≤ (ji14)
                  · rw [if_pos c15] at H
                    have c15b0 : decide (0 ≤ (ji14)) = true := decide_eq_true c15
                    clear c15
                    by_cases c16 : (ji14) < (t313.length : Int)
                    · rw [if_pos c16] at H
                      have c16b0 : decide ((ji14) < (t313.length : Int)) = true := decide_eq_true c16
                      clear c16
                      by_cases c17 : (rd t313 (ji14)) = 3
                      · rw [if_pos c17] at H
                        have c17b0 : ((rd t313 (ji14)) == 3) = true := beq_iff_eq.mpr c17
                        have c17b1 : ((rd t313 (ji14)) != 3) = false := bne_eq_false_iff_eq.mpr c17
                        clear c17
                        have H' := Aside0.mk H
                        clear H
                        obtain ⟨Ao18, co18, eo18⟩ := Kd.R_slice HO_6.out
                        subst eo18
                        have p320 : 0 ≤ (x9_1 : Int) := of_decide_eq_true (by first | (with_reducible assumption) | assumption)
                        have q320 : x9_1 < (t313.length : Int) := of_decide_eq_true (by first | (with_reducible assumption) | assumption)
                        obtain ⟨ad320, e320, hx320_0⟩ := Kd.at_int (Kd.R_reads' HO_6.out).2.2 x9_1 p320 q320
                        cases e320
                        replace p320 := eq_true p320
                        replace q320 := eq_true q320
                        have p321 : 0 ≤ ((ji14) : Int) := of_decide_eq_true (by first | (with_reducible assumption) | assumption)
                        have q321 : (ji14) < (t313.length : Int) := of_decide_eq_true (by first | (with_reducible assumption) | assumption)
                        obtain ⟨ad321, e321, hx321_0⟩ := Kd.at_int (Kd.R_reads' HO_6.out).2.2 (ji14) p321 q321
                        obtain rfl : ad320 = ad321 := (by injection e321)
                        replace p321 := eq_true p321
                        replace q321 := eq_true q321
                        go_wp2
                        go_roundg k1
                        case measure => have := HK1.out; omega
                        case rel => exact ⟨(x8_1), (wrap64 (x9_1 + 1)), (by first | rfl | (simp; done) | (simp [*]; done)), H', ⟨by have := HK1.out; omega⟩, ⟨by (with_reducible repeat (first | apply Kd.R_alloc | apply Kd.R_drewN | apply Kd.R_drew)); exact HO_6.out⟩, ⟨by (with_reducible repeat (first | apply Kd.R_alloc | apply Kd.R_drewN | apply Kd.R_drew)); exact HO_8.out⟩, ⟨by repeat (first | (with_reducible first | exact HB.out | apply below_alloc | apply pw_below_drewN | apply below_drew1) | exact HB.out)⟩⟩
                      · rw [if_neg c17] at H
                        have c17b0 : ((rd t313 (ji14)) == 3) = false := beq_eq_false_iff_ne.mpr c17
                        have c17b1 : ((rd t313 (ji14)) != 3) = true := bne_iff_ne.mpr c17
                        by_cases c19 : x8_1.length < 17592186044416
                        · rw [if_pos c19] at H
                          have LMc19 := Aside0.mk c19
                          clear c19
                          obtain ⟨y322, hy322⟩ : ∃ y_ : List Int, y_ = (x8_1 ++ [x9_1]) := ⟨_, rfl⟩
                          replace H : (vinculumref43_Places.l0 k1 l1 t313 y322 (wrap64 (x9_1 + 1))) = some (r1, r2) := by first | (rw [hy322]; with_reducible exact H) | (have H2_ := (Option.bind_some _ _).symm.trans H; rw [hy322]; with_reducible exact H2_) | (have H2_ := (Option.bind_some _ _).symm.trans H; with_reducible exact H2_) | with_reducible exact H | (rw [hy322]; exact H) | exact H
                          have Ny322 := Aside0.mk hy322
                          clear hy322
                          have H' := Aside0.mk H
                          clear H
                          obtain ⟨Ao20, co20, eo20⟩ := Kd.R_slice HO_6.out
                          subst eo20
                          have p320 : 0 ≤ (x9_1 : Int) := of_decide_eq_true (by first | (with_reducible assumption) | assumption)
                          have q320 : x9_1 < (t313.length : Int) := of_decide_eq_true (by first | (with_reducible assumption) | assumption)
                          obtain ⟨ad320, e320, hx320_0⟩ := Kd.at_int (Kd.R_reads' HO_6.out).2.2 x9_1 p320 q320
                          cases e320
                          replace p320 := eq_true p320
                          replace q320 := eq_true q320
                          have p321 : 0 ≤ ((ji14) : Int) := of_decide_eq_true (by first | (with_reducible assumption) | assumption)
                          have q321 : (ji14) < (t313.length : Int) := of_decide_eq_true (by first | (with_reducible assumption) | assumption)
                          obtain ⟨ad321, e321, hx321_0⟩ := Kd.at_int (Kd.R_reads' HO_6.out).2.2 (ji14) p321 q321
                          obtain rfl : ad320 = ad321 := (by injection e321)
                          replace p321 := eq_true p321
                          replace q321 := eq_true q321
                          go_wp2_with (first | ((with_reducible refine gate_builtin (b := .append) (xs := #[.tmp 51, .tmp 53]) rfl ?_); at_builtin; refine Kd.R_append (Kd.int .i64) (w0 := w) w.heap.size rfl (.tmp 51) (.tmp 53) 26 3 (.int .i64 0) 8 rfl Tryd.underlying26 info3 rfl (by decide) (by omega) u8 x8_1 x9_1 [.int .i64 x9_1] (fun k_ => some k_ ≠ (.slice (some ad320) t313.length co20 : Value).ownBlock) (fun _ => False) rfl rfl ?aP (fun _ hk => hk.elim) ?aF ?aO ?aB ?aS ?aL ?_; (case aP => exact rfl); (case aB => exact (by repeat (first | (with_reducible first | exact HB.out | apply below_alloc | apply pw_below_drewN | apply below_drew1) | exact HB.out))); (case aF => exact (fun k_ hk => Kd.fresh' (Kd.R_lt (by (with_reducible repeat (first | apply Kd.R_alloc | apply Kd.R_drewN | apply Kd.R_drew)); exact HO_6.out)) k_ hk)); (case aO => exact (by (with_reducible repeat (first | apply Kd.R_alloc | apply Kd.R_drewN | apply Kd.R_drew)); exact HO_8.out)); (case aS => exact (below_size (by repeat (first | (with_reducible first | exact HB.out | apply below_alloc | apply pw_below_drewN | apply below_drew1) | exact HB.out)))); (case aL => have := LMc19.out; omega); intro v323 w21 ho hb hg hat; rw [← Ny322.out] at ho; have n0_ := Aside0.mk (Kd.R_after (ok := (fun _ => True)) (by (with_reducible repeat (first | apply Kd.R_alloc | apply Kd.R_drewN | apply Kd.R_drew)); exact Kd.R_mono HO_6.out (fun _ hk => ⟨trivial, hk⟩)) hg hat); have n1_ := Aside0.mk (hb); have n2_ := Aside0.mk (ho); clear HO_6; clear HB; clear HO_8; have HO_6 := n0_; have HB := n1_; have HO324 := n2_; clear n0_ n1_ n2_; clear ho hb hg hat))
                          go_roundg k1
                          case measure => have := HK1.out; omega
                          case rel => exact ⟨(y322), (wrap64 (x9_1 + 1)), (by first | rfl | (simp; done) | (simp [*]; done)), H', ⟨by have := HK1.out; omega⟩, ⟨by (with_reducible repeat (first | apply Kd.R_alloc | apply Kd.R_drewN | apply Kd.R_drew)); exact Kd.R_mono HO_6.out (fun _ hk => hk.2)⟩, ⟨by (with_reducible repeat (first | apply Kd.R_alloc | apply Kd.R_drewN | apply Kd.R_drew)); exact HO324.out⟩, ⟨by repeat (first | (with_reducible first | exact HB.out | apply below_alloc | apply pw_below_drewN | apply below_drew1) | exact HB.out)⟩⟩
                        · rw [if_neg c19] at H
                          exact absurd H (by simp)
                    · rw [if_neg c16] at H
                      exact absurd H (by simp)
                  · rw [if_neg c15] at H
                    exact absurd H (by simp)
                · rw [if_neg c13] at H
                  have c13b0 : ((rd t313 x9_1) == 3) = false := beq_eq_false_iff_ne.mpr c13
                  have c13b1 : ((rd t313 x9_1) != 3) = true := bne_iff_ne.mpr c13
                  by_cases c22 : (rd t313 x9_1) = 2
                  · rw [if_pos c22] at H
                    have c22b0 : ((rd t313 x9_1) == 2) = true := beq_iff_eq.mpr c22
                    have c22b1 : ((rd t313 x9_1) != 2) = false := bne_eq_false_iff_eq.mpr c22
                    clear c22
                    obtain ⟨ji23, hji23⟩ : ∃ j_ : Int, (wrap64 (x9_1 - 1)) = j_ := ⟨_, rfl⟩
                    replace H : (if 0 ≤ (ji23) then (if (ji23) < (t313.length : Int) then (if (rd t313 (ji23)) = 3 then (vinculumref43_Places.l0 k1 l1 t313 x8_1 (wrap64 (x9_1 + 1))) else (if x8_1.length < 17592186044416 then (vinculumref43_Places.l0 k1 l1 t313 (x8_1 ++ [x9_1]) (wrap64 (x9_1 + 1))) else (none))) else (none)) else (none)) = some (r1, r2) := by first | (rw [hji23] at H; exact H) | (simp only [hji23] at H ⊢; exact H)
                    have hji23w : (IntKind.i64.wrap (x9_1 - 1)) = ji23 := (i64_w _).trans hji23
                    by_cases c24 : 0 ≤ (ji23)
                    · rw [if_pos c24] at H
                      have c24b0 : decide (0 ≤ (ji23)) = true := decide_eq_true c24
                      clear c24
                      by_cases c25 : (ji23) < (t313.length : Int)
                      · rw [if_pos c25] at H
                        have c25b0 : decide ((ji23) < (t313.length : Int)) = true := decide_eq_true c25
                        clear c25
                        by_cases c26 : (rd t313 (ji23)) = 3
                        · rw [if_pos c26] at H
                          have c26b0 : ((rd t313 (ji23)) == 3) = true := beq_iff_eq.mpr c26
                          have c26b1 : ((rd t313 (ji23)) != 3) = false := bne_eq_false_iff_eq.mpr c26
                          clear c26
                          have H' := Aside0.mk H
                          clear H
                          obtain ⟨Ao27, co27, eo27⟩ := Kd.R_slice HO_6.out
                          subst eo27
                          have p320 : 0 ≤ (x9_1 : Int) := of_decide_eq_true (by first | (with_reducible assumption) | assumption)
                          have q320 : x9_1 < (t313.length : Int) := of_decide_eq_true (by first | (with_reducible assumption) | assumption)
                          obtain ⟨ad320, e320, hx320_0⟩ := Kd.at_int (Kd.R_reads' HO_6.out).2.2 x9_1 p320 q320
                          cases e320
                          replace p320 := eq_true p320
                          replace q320 := eq_true q320
                          have p325 : 0 ≤ (x9_1 : Int) := of_decide_eq_true (by first | (with_reducible assumption) | assumption)
                          have q325 : x9_1 < (t313.length : Int) := of_decide_eq_true (by first | (with_reducible assumption) | assumption)
                          obtain ⟨ad325, e325, hx325_0⟩ := Kd.at_int (Kd.R_reads' HO_6.out).2.2 x9_1 p325 q325
                          obtain rfl : ad320 = ad325 := (by injection e325)
                          replace p325 := eq_true p325
                          replace q325 := eq_true q325
                          have p326 : 0 ≤ ((ji23) : Int) := of_decide_eq_true (by first | (with_reducible assumption) | assumption)
                          have q326 : (ji23) < (t313.length : Int) := of_decide_eq_true (by first | (with_reducible assumption) | assumption)
                          obtain ⟨ad326, e326, hx326_0⟩ := Kd.at_int (Kd.R_reads' HO_6.out).2.2 (ji23) p326 q326
                          obtain rfl : ad320 = ad326 := (by injection e326)
                          replace p326 := eq_true p326
                          replace q326 := eq_true q326
                          go_wp2
                          go_roundg k1
                          case measure => have := HK1.out; omega
                          case rel => exact ⟨(x8_1), (wrap64 (x9_1 + 1)), (by first | rfl | (simp; done) | (simp [*]; done)), H', ⟨by have := HK1.out; omega⟩, ⟨by (with_reducible repeat (first | apply Kd.R_alloc | apply Kd.R_drewN | apply Kd.R_drew)); exact HO_6.out⟩, ⟨by (with_reducible repeat (first | apply Kd.R_alloc | apply Kd.R_drewN | apply Kd.R_drew)); exact HO_8.out⟩, ⟨by repeat (first | (with_reducible first | exact HB.out | apply below_alloc | apply pw_below_drewN | apply below_drew1) | exact HB.out)⟩⟩
                        · rw [if_neg c26] at H
                          have c26b0 : ((rd t313 (ji23)) == 3) = false := beq_eq_false_iff_ne.mpr c26
                          have c26b1 : ((rd t313 (ji23)) != 3) = true := bne_iff_ne.mpr c26
                          by_cases c28 : x8_1.length < 17592186044416
                          · rw [if_pos c28] at H
                            have LMc28 := Aside0.mk c28
                            clear c28
                            obtain ⟨y327, hy327⟩ : ∃ y_ : List Int, y_ = (x8_1 ++ [x9_1]) := ⟨_, rfl⟩
                            replace H : (vinculumref43_Places.l0 k1 l1 t313 y327 (wrap64 (x9_1 + 1))) = some (r1, r2) := by first | (rw [hy327]; with_reducible exact H) | (have H2_ := (Option.bind_some _ _).symm.trans H; rw [hy327]; with_reducible exact H2_) | (have H2_ := (Option.bind_some _ _).symm.trans H; with_reducible exact H2_) | with_reducible exact H | (rw [hy327]; exact H) | exact H
                            have Ny327 := Aside0.mk hy327
                            clear hy327
                            have H' := Aside0.mk H
                            clear H
                            obtain ⟨Ao29, co29, eo29⟩ := Kd.R_slice HO_6.out
                            subst eo29
                            have p320 : 0 ≤ (x9_1 : Int) := of_decide_eq_true (by first | (with_reducible assumption) | assumption)
                            have q320 : x9_1 < (t313.length : Int) := of_decide_eq_true (by first | (with_reducible assumption) | assumption)
                            obtain ⟨ad320, e320, hx320_0⟩ := Kd.at_int (Kd.R_reads' HO_6.out).2.2 x9_1 p320 q320
                            cases e320
                            replace p320 := eq_true p320
                            replace q320 := eq_true q320
                            have p325 : 0 ≤ (x9_1 : Int) := of_decide_eq_true (by first | (with_reducible assumption) | assumption)
                            have q325 : x9_1 < (t313.length : Int) := of_decide_eq_true (by first | (with_reducible assumption) | assumption)
                            obtain ⟨ad325, e325, hx325_0⟩ := Kd.at_int (Kd.R_reads' HO_6.out).2.2 x9_1 p325 q325
                            obtain rfl : ad320 = ad325 := (by injection e325)
                            replace p325 := eq_true p325
                            replace q325 := eq_true q325
                            have p326 : 0 ≤ ((ji23) : Int) := of_decide_eq_true (by first | (with_reducible assumption) | assumption)
                            have q326 : (ji23) < (t313.length : Int) := of_decide_eq_true (by first | (with_reducible assumption) | assumption)
                            obtain ⟨ad326, e326, hx326_0⟩ := Kd.at_int (Kd.R_reads' HO_6.out).2.2 (ji23) p326 q326
                            obtain rfl : ad320 = ad326 := (by injection e326)
                            replace p326 := eq_true p326
                            replace q326 := eq_true q326
                            go_wp2_with (first | ((with_reducible refine gate_builtin (b := .append) (xs := #[.tmp 51, .tmp 53]) rfl ?_); at_builtin; refine Kd.R_append (Kd.int .i64) (w0 := w) w.heap.size rfl (.tmp 51) (.tmp 53) 26 3 (.int .i64 0) 8 rfl Tryd.underlying26 info3 rfl (by decide) (by omega) u8 x8_1 x9_1 [.int .i64 x9_1] (fun k_ => some k_ ≠ (.slice (some ad320) t313.length co29 : Value).ownBlock) (fun _ => False) rfl rfl ?aP (fun _ hk => hk.elim) ?aF ?aO ?aB ?aS ?aL ?_; (case aP => exact rfl); (case aB => exact (by repeat (first | (with_reducible first | exact HB.out | apply below_alloc | apply pw_below_drewN | apply below_drew1) | exact HB.out))); (case aF => exact (fun k_ hk => Kd.fresh' (Kd.R_lt (by (with_reducible repeat (first | apply Kd.R_alloc | apply Kd.R_drewN | apply Kd.R_drew)); exact HO_6.out)) k_ hk)); (case aO => exact (by (with_reducible repeat (first | apply Kd.R_alloc | apply Kd.R_drewN | apply Kd.R_drew)); exact HO_8.out)); (case aS => exact (below_size (by repeat (first | (with_reducible first | exact HB.out | apply below_alloc | apply pw_below_drewN | apply below_drew1) | exact HB.out)))); (case aL => have := LMc28.out; omega); intro v328 w30 ho hb hg hat; rw [← Ny327.out] at ho; have n0_ := Aside0.mk (Kd.R_after (ok := (fun _ => True)) (by (with_reducible repeat (first | apply Kd.R_alloc | apply Kd.R_drewN | apply Kd.R_drew)); exact Kd.R_mono HO_6.out (fun _ hk => ⟨trivial, hk⟩)) hg hat); have n1_ := Aside0.mk (hb); have n2_ := Aside0.mk (ho); clear HO_6; clear HB; clear HO_8; have HO_6 := n0_; have HB := n1_; have HO329 := n2_; clear n0_ n1_ n2_; clear ho hb hg hat))
                            go_roundg k1
                            case measure => have := HK1.out; omega
                            case rel => exact ⟨(y327), (wrap64 (x9_1 + 1)), (by first | rfl | (simp; done) | (simp [*]; done)), H', ⟨by have := HK1.out; omega⟩, ⟨by (with_reducible repeat (first | apply Kd.R_alloc | apply Kd.R_drewN | apply Kd.R_drew)); exact Kd.R_mono HO_6.out (fun _ hk => hk.2)⟩, ⟨by (with_reducible repeat (first | apply Kd.R_alloc | apply Kd.R_drewN | apply Kd.R_drew)); exact HO329.out⟩, ⟨by repeat (first | (with_reducible first | exact HB.out | apply below_alloc | apply pw_below_drewN | apply below_drew1) | exact HB.out)⟩⟩
                          · rw [if_neg c28] at H
                            exact absurd H (by simp)
                      · rw [if_neg c25] at H
                        exact absurd H (by simp)
                    · rw [if_neg c24] at H
                      exact absurd H (by simp)
                  · rw [if_neg c22] at H
                    have c22b0 : ((rd t313 x9_1) == 2) = false := beq_eq_false_iff_ne.mpr c22
                    have c22b1 : ((rd t313 x9_1) != 2) = true := bne_iff_ne.mpr c22
                    have H' := Aside0.mk H
                    clear H
                    obtain ⟨Ao31, co31, eo31⟩ := Kd.R_slice HO_6.out
                    subst eo31
                    have p320 : 0 ≤ (x9_1 : Int) := of_decide_eq_true (by first | (with_reducible assumption) | assumption)
                    have q320 : x9_1 < (t313.length : Int) := of_decide_eq_true (by first | (with_reducible assumption) | assumption)
                    obtain ⟨ad320, e320, hx320_0⟩ := Kd.at_int (Kd.R_reads' HO_6.out).2.2 x9_1 p320 q320
                    cases e320
                    replace p320 := eq_true p320
                    replace q320 := eq_true q320
                    have p325 : 0 ≤ (x9_1 : Int) := of_decide_eq_true (by first | (with_reducible assumption) | assumption)
                    have q325 : x9_1 < (t313.length : Int) := of_decide_eq_true (by first | (with_reducible assumption) | assumption)
                    obtain ⟨ad325, e325, hx325_0⟩ := Kd.at_int (Kd.R_reads' HO_6.out).2.2 x9_1 p325 q325
                    obtain rfl : ad320 = ad325 := (by injection e325)
                    replace p325 := eq_true p325
                    replace q325 := eq_true q325
                    go_wp2
                    go_roundg k1
                    case measure => have := HK1.out; omega
                    case rel => exact ⟨(x8_1), (wrap64 (x9_1 + 1)), (by first | rfl | (simp; done) | (simp [*]; done)), H', ⟨by have := HK1.out; omega⟩, ⟨by (with_reducible repeat (first | apply Kd.R_alloc | apply Kd.R_drewN | apply Kd.R_drew)); exact HO_6.out⟩, ⟨by (with_reducible repeat (first | apply Kd.R_alloc | apply Kd.R_drewN | apply Kd.R_drew)); exact HO_8.out⟩, ⟨by repeat (first | (with_reducible first | exact HB.out | apply below_alloc | apply pw_below_drewN | apply below_drew1) | exact HB.out)⟩⟩
              · rw [if_neg c12] at H
                exact absurd H (by simp)
            · rw [if_neg c11] at H
              exact absurd H (by simp)
          · rw [if_neg c10] at H
            have c10b0 : decide (x9_1 < (l1.length : Int)) = false := decide_eq_false c10
            clear c10
            simp only [Option.some.injEq, Prod.mk.injEq] at H
            obtain ⟨rfl, rfl⟩ := H
            go_wp2
            go_ret2
            exact ⟨_, by first | rfl | (simp [errW_none, errW_some] <;> rfl) | (simp [*, errW_none, errW_some] <;> rfl), by (with_reducible repeat (first | apply Kd.R_alloc | apply Kd.R_drewN | apply Kd.R_drew)); exact Kd.R_mono HO_8.out (fun _ hk => trivial), by repeat (first | (with_reducible first | exact HB.out | apply below_alloc | apply pw_below_drewN | apply below_drew1) | exact HB.out)⟩
  · rw [if_neg c4] at H
    have c4b0 : (t314 == 0) = false := beq_eq_false_iff_ne.mpr c4
    have c4b1 : (t314 != 0) = true := bne_iff_ne.mpr c4
    simp only [Option.some.injEq, Prod.mk.injEq] at H
    obtain ⟨rfl, rfl⟩ := H
    go_enter Tryd.func20, Tryd.ntmps20
    go_wp2_with (first | ((with_reducible refine gate_callee (f := 22) rfl ?_); refine goesL_ (some 13) rfl rfl Tryd.func22 (by kernel_rfl) rfl #[.slice A0 l0.length c0, .slice A1 l1.length c1] rfl (by (try simp only [List.map_toArray, List.map_cons, List.map_nil]); first | done | rfl | (simp only [List.length_drop, List.length_take]; rfl)) ?_; (with_reducible refine (vinculumref26_Classes.calls k _ _ l0 _ _ l1 t313 t314 _ ?side1 ?side2 ?side3 ?side4 A3.out).mono ?_); (case side1 => repeat (first | exact HR0.out | (with_reducible refine Kd.C_alloc ?_ _) | (with_reducible refine Kd.C_drewN ?_ _) | (with_reducible refine Kd.C_drew ?_))); (case side2 => exact HC0.out); (case side3 => repeat (first | exact HR1.out | (with_reducible refine Kd.C_alloc ?_ _) | (with_reducible refine Kd.C_drewN ?_ _) | (with_reducible refine Kd.C_drew ?_))); (case side4 => exact HC1.out); rintro e w32 ⟨v315, rfl, ho0, hb⟩; refine ⟨_, rfl, ?_⟩; have n0_ := Aside0.mk (Kd.R_lower ho0 (below_size (by repeat (first | (with_reducible first | exact HB.out | apply below_alloc | apply pw_below_drewN | apply below_drew1) | exact HB.out)))); have n1_ := Aside0.mk (below_step (by repeat (first | (with_reducible first | exact HB.out | apply below_alloc | apply pw_below_drewN | apply below_drew1) | exact HB.out)) hb); clear HB; have HO316 := n0_; have HB := n1_; clear n0_ n1_; (try clear hb); (try clear hb2); (try clear hk); (try clear hi); (try clear ho0)))
    go_ret2
    exact ⟨_, by first | rfl | (simp [errW_none, errW_some] <;> rfl) | (simp [*, errW_none, errW_some] <;> rfl), by first | exact Kd.R_nil _ _ _ _ _ | exact Kd.N_nil _ _ _ _ _ | exact Kd.V_nil _ _ _ _ _ | exact Kd.Q_nil _ _ _ _ _ | exact Kd.S_nil _ _ _ _ _, by repeat (first | (with_reducible first | exact HB.out | apply below_alloc | apply pw_below_drewN | apply below_drew1) | exact HB.out)⟩
end Go.Proofs.YtagkhoeidjlahaaDoor.G
namespace Go.Proofs.YtagkhoeidjlahaaDoor.G
open Go.RowKit Go.Proofs.YtagkhoeidjlahaaDoorW.PrintWords Go.Proofs.YtagkhoeidjlahaaDoorW.PrintLast Go.Proofs.YtagkhoeidjlahaaDoorW.PrintMore
attribute [local go_sem] max2_int min2_int max_two min_two max_three min_three max_four min_four
set_option linter.unusedVariables false
set_option linter.unusedSimpArgs false
def vinculumlaw43_same.l0 : Nat → List Int → List Int → Int → Option (Bool)
  | 0, _, _, _ => none
  | k + 1, x0, x1, x5 => if x5 < (x0.length : Int) then (if 0 ≤ x5 then (if x5 < (x1.length : Int) then (if (rd x0 x5) = (rd x1 x5) then (vinculumlaw43_same.l0 k x0 x1 (wrap64 (x5 + 1))) else (some false)) else (none)) else (none)) else (some true)
def vinculumlaw43_same.f (k : Nat) (l0 : List Int) (l1 : List Int) : Option (Bool) := if (l0.length : Int) = (l1.length : Int) then (vinculumlaw43_same.l0 k l0 l1 0) else (some false)
set_option maxHeartbeats 8000000 in
set_option maxRecDepth 100000 in
theorem vinculumlaw43_same.calls (k : Nat) (A0 : Option Addr) (c0 : Nat) (l0 : List Int) (A1 : Option Addr) (c1 : Nat) (l1 : List Int) (r : Bool) (w : World) (hr0 : Kd.C (Kd.int .i64) w A0 l0.length l0) (hc0 : l0.length ≤ c0) (hr1 : Kd.C (Kd.int .i64) w A1 l1.length l1) (hc1 : l1.length ≤ c1) (h : vinculumlaw43_same.f k l0 l1 = some r) :
    Calls Tryd.prog 21 #[.slice A0 l0.length c0, .slice A1 l1.length c1] w fun e w' => e = .returned (.bool r) ∧ Drawn0 w w' := by
  have HR0 := Aside0.mk hr0
  have HC0 := Aside0.mk hc0
  clear hr0 hc0
  have HR1 := Aside0.mk hr1
  have HC1 := Aside0.mk hc1
  clear hr1 hc1
  have H : (if (l0.length : Int) = (l1.length : Int) then (vinculumlaw43_same.l0 k l0 l1 0) else (some false)) = some r := h
  clear h
  by_cases c3 : (l0.length : Int) = (l1.length : Int)
  · rw [if_pos c3] at H
    have c3b0 : ((l0.length : Int) == (l1.length : Int)) = true := beq_iff_eq.mpr c3
    have c3b1 : ((l0.length : Int) != (l1.length : Int)) = false := bne_eq_false_iff_eq.mpr c3
    have c3b2 : (l0.length == l1.length) = true := by first | simpa using c3 | (simp at c3 ⊢; omega)
    clear c3
    have H' := Aside0.mk H
    clear H
    go_enter Tryd.func21, Tryd.ntmps21
    go_wp2
    repeat (go_quiet (fail); try go_wp2)
    go_loopg [5] k (fun kq v5 w' => ∃ (x5_1 : Int), v5 = .int .i64 x5_1 ∧ Aside0 (vinculumlaw43_same.l0 kq l0 l1 x5_1 = some r) ∧ Aside0 (kq ≤ k) ∧ Drawn0 w w')
    case atStart => exact ⟨(0), (by first | rfl | (simp; done) | (simp [*]; done)), H', ⟨Nat.le_refl _⟩, by repeat (first | exact Drawn0.refl _ | apply Drawn0.step)⟩
    case round =>
      clear H'
      try clear c1
      try clear c2
      try clear p2
      try clear c3
      try clear c3b0
      try clear c3b1
      try clear c3b2
      obtain ⟨x5_1, rfl, HA, HK1, ⟨m1, rfl⟩⟩ := hrel
      cases gk with
      | zero => exact absurd HA.out (by simp [vinculumlaw43_same.l0])
      | succ k1 =>
        have H := HA.out
        clear HA
        simp only [vinculumlaw43_same.l0] at H
        by_cases c4 : x5_1 < (l0.length : Int)
        · rw [if_pos c4] at H
          have c4b0 : decide (x5_1 < (l0.length : Int)) = true := decide_eq_true c4
          clear c4
          by_cases c5 : 0 ≤ x5_1
          · rw [if_pos c5] at H
            have c5b0 : decide (0 ≤ x5_1) = true := decide_eq_true c5
            clear c5
            by_cases c6 : x5_1 < (l1.length : Int)
            · rw [if_pos c6] at H
              have c6b0 : decide (x5_1 < (l1.length : Int)) = true := decide_eq_true c6
              clear c6
              by_cases c7 : (rd l0 x5_1) = (rd l1 x5_1)
              · rw [if_pos c7] at H
                have c7b0 : ((rd l0 x5_1) == (rd l1 x5_1)) = true := beq_iff_eq.mpr c7
                have c7b1 : ((rd l0 x5_1) != (rd l1 x5_1)) = false := bne_eq_false_iff_eq.mpr c7
                clear c7
                have H' := Aside0.mk H
                clear H
                have p186 : 0 ≤ (x5_1 : Int) := of_decide_eq_true (by first | (with_reducible assumption) | assumption)
                have q186 : x5_1 < (l0.length : Int) := of_decide_eq_true (by first | (with_reducible assumption) | assumption)
                obtain ⟨ad186, e186, hx186_0⟩ := Kd.at_int HR0.out x5_1 p186 q186
                cases e186
                replace p186 := eq_true p186
                replace q186 := eq_true q186
                have p187 : 0 ≤ (x5_1 : Int) := of_decide_eq_true (by first | (with_reducible assumption) | assumption)
                have q187 : x5_1 < (l1.length : Int) := of_decide_eq_true (by first | (with_reducible assumption) | assumption)
                obtain ⟨ad187, e187, hx187_0⟩ := Kd.at_int HR1.out x5_1 p187 q187
                cases e187
                replace p187 := eq_true p187
                replace q187 := eq_true q187
                go_wp2
                repeat (go_quiet (fail); try go_wp2)
                go_roundg k1
                case measure => have := HK1.out; omega
                case rel => exact ⟨(wrap64 (x5_1 + 1)), (by first | rfl | (simp; done) | (simp [*]; done)), H', ⟨by have := HK1.out; omega⟩, by repeat (first | exact Drawn0.refl _ | apply Drawn0.step)⟩
              · rw [if_neg c7] at H
                have c7b0 : ((rd l0 x5_1) == (rd l1 x5_1)) = false := beq_eq_false_iff_ne.mpr c7
                have c7b1 : ((rd l0 x5_1) != (rd l1 x5_1)) = true := bne_iff_ne.mpr c7
                obtain rfl := Option.some.inj H
                have p186 : 0 ≤ (x5_1 : Int) := of_decide_eq_true (by first | (with_reducible assumption) | assumption)
                have q186 : x5_1 < (l0.length : Int) := of_decide_eq_true (by first | (with_reducible assumption) | assumption)
                obtain ⟨ad186, e186, hx186_0⟩ := Kd.at_int HR0.out x5_1 p186 q186
                cases e186
                replace p186 := eq_true p186
                replace q186 := eq_true q186
                have p187 : 0 ≤ (x5_1 : Int) := of_decide_eq_true (by first | (with_reducible assumption) | assumption)
                have q187 : x5_1 < (l1.length : Int) := of_decide_eq_true (by first | (with_reducible assumption) | assumption)
                obtain ⟨ad187, e187, hx187_0⟩ := Kd.at_int HR1.out x5_1 p187 q187
                cases e187
                replace p187 := eq_true p187
                replace q187 := eq_true q187
                go_wp2
                repeat (go_quiet (fail); try go_wp2)
                go_ret
                exact ⟨by first | rfl | (simp; done) | (simp [*]; done), by repeat (first | exact Drawn0.refl _ | apply Drawn0.step)⟩
            · rw [if_neg c6] at H
              exact absurd H (by simp)
          · rw [if_neg c5] at H
            exact absurd H (by simp)
        · rw [if_neg c4] at H
          have c4b0 : decide (x5_1 < (l0.length : Int)) = false := decide_eq_false c4
          clear c4
          obtain rfl := Option.some.inj H
          go_wp2
          repeat (go_quiet (fail); try go_wp2)
          go_ret
          exact ⟨by first | rfl | (simp; done) | (simp [*]; done), by repeat (first | exact Drawn0.refl _ | apply Drawn0.step)⟩
  · rw [if_neg c3] at H
    have c3b0 : ((l0.length : Int) == (l1.length : Int)) = false := beq_eq_false_iff_ne.mpr c3
    have c3b1 : ((l0.length : Int) != (l1.length : Int)) = true := bne_iff_ne.mpr c3
    have c3b2 : (l0.length == l1.length) = false := by first | simpa using c3 | (simp at c3 ⊢; omega)
    obtain rfl := Option.some.inj H
    go_enter Tryd.func21, Tryd.ntmps21
    go_wp2
    repeat (go_quiet (fail); try go_wp2)
    go_ret
    exact ⟨by first | rfl | (simp; done) | (simp [*]; done), by repeat (first | exact Drawn0.refl _ | apply Drawn0.step)⟩
end Go.Proofs.YtagkhoeidjlahaaDoor.G
namespace Go.Proofs.YtagkhoeidjlahaaDoor.G
open Go.RowKit Go.Proofs.YtagkhoeidjlahaaDoorW.PrintWords Go.Proofs.YtagkhoeidjlahaaDoorW.PrintLast Go.Proofs.YtagkhoeidjlahaaDoorW.PrintMore
attribute [local go_sem] max2_int min2_int max_two min_two max_three min_three max_four min_four
set_option linter.unusedVariables false
set_option linter.unusedSimpArgs false
def vinculumlaw43_awake.f (k : Nat)  : Option (Bool) := (breakpoint_Places.f k (([(⟨(⟨#[43]⟩ : ByteArray), 2, false, false⟩ : S68)] : List (S68))) (([(⟨2, (⟨#[97]⟩ : ByteArray), 0, ([] : List (S36))⟩ : S36), (⟨2, (⟨#[43]⟩ : ByteArray), 0, ([] : List (S36))⟩ : S36), (⟨2, (⟨#[97]⟩ : ByteArray), 0, ([] : List (S36))⟩ : S36)] : List (S36)))).bind fun bt195 => (if bt195.2 = 0 then ((vinculumlaw43_same.f k bt195.1 (([0, 1] : List Int))).bind fun t202 => (some t202)) else (some false))
set_option maxHeartbeats 8000000 in
set_option maxRecDepth 100000 in
theorem vinculumlaw43_awake.calls (k : Nat)  (r : Bool) (w : World) (h : vinculumlaw43_awake.f k  = some r) :
    Calls Tryd.prog 17 #[] w fun e w' => e = .returned (.bool r) ∧ Below w.heap.size w w' := by
  have hu68 := Tryd.underlying68
  have hu36 := Tryd.underlying36
  have HB := Aside0.mk (Below.refl w.heap.size w)
  have H : ((breakpoint_Places.f k (([(⟨(⟨#[43]⟩ : ByteArray), 2, false, false⟩ : S68)] : List (S68))) (([(⟨2, (⟨#[97]⟩ : ByteArray), 0, ([] : List (S36))⟩ : S36), (⟨2, (⟨#[43]⟩ : ByteArray), 0, ([] : List (S36))⟩ : S36), (⟨2, (⟨#[97]⟩ : ByteArray), 0, ([] : List (S36))⟩ : S36)] : List (S36)))).bind fun bt195 => (if bt195.2 = 0 then ((vinculumlaw43_same.f k bt195.1 (([0, 1] : List Int))).bind fun t202 => (some t202)) else (some false))) = some r := h
  clear h
  obtain ⟨y188, hy188⟩ : ∃ y_ : List (S68), y_ = (([(⟨(⟨#[43]⟩ : ByteArray), 2, false, false⟩ : S68)] : List (S68))) := ⟨_, rfl⟩
  replace H : ((breakpoint_Places.f k y188 (([(⟨2, (⟨#[97]⟩ : ByteArray), 0, ([] : List (S36))⟩ : S36), (⟨2, (⟨#[43]⟩ : ByteArray), 0, ([] : List (S36))⟩ : S36), (⟨2, (⟨#[97]⟩ : ByteArray), 0, ([] : List (S36))⟩ : S36)] : List (S36)))).bind fun bt195 => (if bt195.2 = 0 then ((vinculumlaw43_same.f k bt195.1 (([0, 1] : List Int))).bind fun t202 => (some t202)) else (some false))) = some r := by first | (rw [hy188]; with_reducible exact H) | (have H2_ := (Option.bind_some _ _).symm.trans H; rw [hy188]; with_reducible exact H2_) | (have H2_ := (Option.bind_some _ _).symm.trans H; with_reducible exact H2_) | with_reducible exact H | (rw [hy188]; exact H) | exact H
  have Ny188 := Aside0.mk hy188
  clear hy188
  obtain ⟨y192, hy192⟩ : ∃ y_ : List (S36), y_ = (([(⟨2, (⟨#[97]⟩ : ByteArray), 0, ([] : List (S36))⟩ : S36), (⟨2, (⟨#[43]⟩ : ByteArray), 0, ([] : List (S36))⟩ : S36), (⟨2, (⟨#[97]⟩ : ByteArray), 0, ([] : List (S36))⟩ : S36)] : List (S36))) := ⟨_, rfl⟩
  replace H : ((breakpoint_Places.f k y188 y192).bind fun bt195 => (if bt195.2 = 0 then ((vinculumlaw43_same.f k bt195.1 (([0, 1] : List Int))).bind fun t202 => (some t202)) else (some false))) = some r := by first | (rw [hy192]; with_reducible exact H) | (have H2_ := (Option.bind_some _ _).symm.trans H; rw [hy192]; with_reducible exact H2_) | (have H2_ := (Option.bind_some _ _).symm.trans H; with_reducible exact H2_) | with_reducible exact H | (rw [hy192]; exact H) | exact H
  have Ny192 := Aside0.mk hy192
  clear hy192
  replace H := Option.bind_eq_some_iff.mp H
  obtain ⟨⟨t195, t196⟩, A10, H⟩ := H
  replace H : (if t196 = 0 then ((vinculumlaw43_same.f k t195 (([0, 1] : List Int))).bind fun t202 => (some t202)) else (some false)) = some r := H
  have A1 := Aside0.mk A10
  clear A10
  by_cases c2 : t196 = 0
  · rw [if_pos c2] at H
    have c2b0 : (t196 == 0) = true := beq_iff_eq.mpr c2
    have c2b1 : (t196 != 0) = false := bne_eq_false_iff_eq.mpr c2
    clear c2
    obtain ⟨y199, hy199⟩ : ∃ y_ : List Int, y_ = (([0, 1] : List Int)) := ⟨_, rfl⟩
    replace H : ((vinculumlaw43_same.f k t195 y199).bind fun t202 => (some t202)) = some r := by first | (rw [hy199]; with_reducible exact H) | (have H2_ := (Option.bind_some _ _).symm.trans H; rw [hy199]; with_reducible exact H2_) | (have H2_ := (Option.bind_some _ _).symm.trans H; with_reducible exact H2_) | with_reducible exact H | (rw [hy199]; exact H) | exact H
    have Ny199 := Aside0.mk hy199
    clear hy199
    replace H := Option.bind_eq_some_iff.mp H
    obtain ⟨t202, A30, H⟩ := H
    replace H : (some t202) = some r := H
    have A3 := Aside0.mk A30
    clear A30
    obtain rfl := Option.some.inj H
    go_enter Tryd.func17, Tryd.ntmps17
    go_wp2_with (first | ((with_reducible refine gate_dst (N := 6) rfl ?_); (try (refine gate_guard (by rfl) ?_; dsimp only)); refine Kd.R_lit k68 _ 68 ?hg (N := 6) ?hd (xs := ([(⟨(⟨#[43]⟩ : ByteArray), 2, false, false⟩ : S68)] : List (S68))) (inner := [.string (⟨#[43]⟩ : ByteArray), .int .i64 2, .bool false, .bool false]) (ok := fun _ => True) (okp := fun _ => True) ?hr ?hp (fun _ hk => hk) trivial (Below.refl _ _) (Nat.le_refl _) (by simp) ?_; (case hd => rfl); (case hg => rfl); (case hr => first | (go_simp; done) | (go_simp; rfl)); (case hp => exact (Reps.c4 (show Kd.M k68 _ _ _ (⟨(⟨#[43]⟩ : ByteArray), 2, false, false⟩ : S68) [.string (⟨#[43]⟩ : ByteArray), .int .i64 2, .bool false, .bool false] from (k68_mkM _ _ _ (⟨(⟨#[43]⟩ : ByteArray), 2, false, false⟩ : S68) )) (Reps.none _ _))); intro v189 w4 ho5 hb hg_ hnew_; clear hg_ hnew_; (first | rw [← Ny188.out] at ho5 | (simp only [Int.reduceToNat] at ho5; rw [← Ny188.out] at ho5)); have n0_ := Aside0.mk (Kd.R_lower ho5 (below_size (by repeat (first | (with_reducible first | exact HB.out | apply below_alloc | apply pw_below_drewN | apply below_drew1) | exact HB.out)))); have n1_ := Aside0.mk (below_step (by repeat (first | (with_reducible first | exact HB.out | apply below_alloc | apply pw_below_drewN | apply below_drew1) | exact HB.out)) hb); clear HB; have HO190 := n0_; have HB := n1_; clear n0_ n1_; clear hb ho5) | ((with_reducible refine gate_dst (N := 2) rfl ?_); (try (refine gate_guard (by rfl) ?_; dsimp only)); refine box_event ?hg (N := 2) ?hd (cs := #[.int .i64 0, .string (⟨#[]⟩ : ByteArray), .int .i64 0, .slice none 0 0]) (t := 36) ?hr ?_; (case hd => rfl); (case hg => rfl); (case hr => first | (go_simp; done) | (go_simp; rfl)); intro gb191 hg w6 hbox hb; have n0_ := Aside0.mk (Kd.R_below (by (with_reducible repeat (first | apply Kd.R_alloc | apply Kd.R_drewN | apply Kd.R_drew)); exact HO190.out) hb); have n1_ := Aside0.mk (below_step (by repeat (first | (with_reducible first | exact HB.out | apply below_alloc | apply pw_below_drewN | apply below_drew1) | exact HB.out)) hb); have n2_ := Aside0.mk (hbox); have n3_ := Aside0.mk ((by rw [hg]; exact (below_size (by repeat (first | (with_reducible first | exact HB.out | apply below_alloc | apply pw_below_drewN | apply below_drew1) | exact HB.out))) : w.heap.size ≤ gb191)); have n4_ := Aside0.mk ((by rw [hg]; exact (below_size (by repeat (first | (with_reducible first | exact HB.out | apply below_alloc | apply pw_below_drewN | apply below_drew1) | exact HB.out))) : w.heap.size ≤ gb191)); clear HO190; clear HB; have HO190 := n0_; have HB := n1_; have BK191 := n2_; have GW191 := n3_; have GE191 := n4_; clear n0_ n1_ n2_ n3_ n4_; clear hb hbox hg; have hcz7_0 : w6.cell? ⟨gb191, 0, none⟩ = some (.int .i64 0) := (blk_cell BK191.out 0).trans rfl; have hcz7_1 : w6.cell? ⟨gb191, 1, none⟩ = some (.string (⟨#[]⟩ : ByteArray)) := (blk_cell BK191.out 1).trans rfl; have hcz7_2 : w6.cell? ⟨gb191, 2, none⟩ = some (.int .i64 0) := (blk_cell BK191.out 2).trans rfl; have hcz7_3 : w6.cell? ⟨gb191, 3, none⟩ = some (.slice none 0 0) := (blk_cell BK191.out 3).trans rfl; have hfz7_0 := blk_frozen BK191.out 0; have hfz7_1 := blk_frozen BK191.out 1; have hfz7_2 := blk_frozen BK191.out 2; have hfz7_3 := blk_frozen BK191.out 3) | ((with_reducible refine gate_dst (N := 13) rfl ?_); (try (refine gate_guard (by rfl) ?_; dsimp only)); refine Kd.R_lit k36 _ 36 ?hg (N := 13) ?hd (xs := ([(⟨2, (⟨#[97]⟩ : ByteArray), 0, ([] : List (S36))⟩ : S36), (⟨2, (⟨#[43]⟩ : ByteArray), 0, ([] : List (S36))⟩ : S36), (⟨2, (⟨#[97]⟩ : ByteArray), 0, ([] : List (S36))⟩ : S36)] : List (S36))) (inner := [.int .i64 2, .string (⟨#[97]⟩ : ByteArray), .int .i64 0, .slice none 0 0, .int .i64 2, .string (⟨#[43]⟩ : ByteArray), .int .i64 0, .slice none 0 0, .int .i64 2, .string (⟨#[97]⟩ : ByteArray), .int .i64 0, .slice none 0 0]) (ok := fun _ => True) (okp := fun _ => True) ?hr ?hp (fun _ hk => hk) trivial (Below.refl _ _) (Nat.le_refl _) (by simp) ?_; (case hd => rfl); (case hg => rfl); (case hr => first | (go_simp; done) | (go_simp; rfl)); (case hp => exact (Reps.c4 (show Kd.M k36 _ _ _ (⟨2, (⟨#[97]⟩ : ByteArray), 0, ([] : List (S36))⟩ : S36) [.int .i64 2, .string (⟨#[97]⟩ : ByteArray), .int .i64 0, .slice none 0 0] from (k36_mkM _ _ _ (⟨2, (⟨#[97]⟩ : ByteArray), 0, ([] : List (S36))⟩ : S36) (Kd.R_nil _ _ _ _ _))) (Reps.c4 (show Kd.M k36 _ _ _ (⟨2, (⟨#[43]⟩ : ByteArray), 0, ([] : List (S36))⟩ : S36) [.int .i64 2, .string (⟨#[43]⟩ : ByteArray), .int .i64 0, .slice none 0 0] from (k36_mkM _ _ _ (⟨2, (⟨#[43]⟩ : ByteArray), 0, ([] : List (S36))⟩ : S36) (Kd.R_nil _ _ _ _ _))) (Reps.c4 (show Kd.M k36 _ _ _ (⟨2, (⟨#[97]⟩ : ByteArray), 0, ([] : List (S36))⟩ : S36) [.int .i64 2, .string (⟨#[97]⟩ : ByteArray), .int .i64 0, .slice none 0 0] from (k36_mkM _ _ _ (⟨2, (⟨#[97]⟩ : ByteArray), 0, ([] : List (S36))⟩ : S36) (Kd.R_nil _ _ _ _ _))) (Reps.none _ _))))); intro v193 w8 ho9 hb hg_ hnew_; clear hg_ hnew_; (first | rw [← Ny192.out] at ho9 | (simp only [Int.reduceToNat] at ho9; rw [← Ny192.out] at ho9)); have n0_ := Aside0.mk (Kd.R_below (by (with_reducible repeat (first | apply Kd.R_alloc | apply Kd.R_drewN | apply Kd.R_drew)); exact (Kd.R_mono (Kd.R_far (p := ⟨gb191, 3, none⟩) (Kd.R_far (p := ⟨gb191, 2, none⟩) (Kd.R_far (p := ⟨gb191, 1, none⟩) (Kd.R_far (p := ⟨gb191, 0, none⟩) (Kd.R_types HO190.out BK191.out (by decide)) (fun _ hk => hk.2) (.int .i64 2)) (fun _ hk => hk.2) (.string (⟨#[97]⟩ : ByteArray))) (fun _ hk => hk.2) (.int .i64 0)) (fun _ hk => hk.2) (.slice none 0 0)) (fun _ h_ => h_.1))) hb); have n1_ := Aside0.mk (Kd.R_lower (Kd.R_newB ho9 (g := gb191) (o := .cells #[.int .i64 2, .string (⟨#[97]⟩ : ByteArray), .int .i64 0, .slice none 0 0] 36 (0, 0)) (by (with_reducible repeat (first | refine blk_drewN ?_ _ | refine blk_drew ?_ | refine blk_alloc ?_ _)); refine blk_put (cs := #[.int .i64 2, .string (⟨#[97]⟩ : ByteArray), .int .i64 0, .slice none 0 0]) ?_ 3 _ rfl; (with_reducible repeat (first | refine blk_drewN ?_ _ | refine blk_drew ?_ | refine blk_alloc ?_ _)); refine blk_put (cs := #[.int .i64 2, .string (⟨#[97]⟩ : ByteArray), .int .i64 0, .slice none 0 0]) ?_ 2 _ rfl; (with_reducible repeat (first | refine blk_drewN ?_ _ | refine blk_drew ?_ | refine blk_alloc ?_ _)); refine blk_put (cs := #[.int .i64 2, .string (⟨#[]⟩ : ByteArray), .int .i64 0, .slice none 0 0]) ?_ 1 _ rfl; (with_reducible repeat (first | refine blk_drewN ?_ _ | refine blk_drew ?_ | refine blk_alloc ?_ _)); refine blk_put (cs := #[.int .i64 0, .string (⟨#[]⟩ : ByteArray), .int .i64 0, .slice none 0 0]) ?_ 0 _ rfl; (with_reducible repeat (first | refine blk_drewN ?_ _ | refine blk_drew ?_ | refine blk_alloc ?_ _)); exact BK191.out)) (below_size (by repeat (first | (with_reducible first | exact HB.out | apply below_alloc | apply pw_below_drewN | apply below_drew1 | refine below_set ?_ GE191.out) | exact HB.out)))); have n2_ := Aside0.mk (blk_below (g := gb191) (o := .cells #[.int .i64 2, .string (⟨#[97]⟩ : ByteArray), .int .i64 0, .slice none 0 0] 36 (0, 0)) (by (with_reducible repeat (first | refine blk_drewN ?_ _ | refine blk_drew ?_ | refine blk_alloc ?_ _)); refine blk_put (cs := #[.int .i64 2, .string (⟨#[97]⟩ : ByteArray), .int .i64 0, .slice none 0 0]) ?_ 3 _ rfl; (with_reducible repeat (first | refine blk_drewN ?_ _ | refine blk_drew ?_ | refine blk_alloc ?_ _)); refine blk_put (cs := #[.int .i64 2, .string (⟨#[97]⟩ : ByteArray), .int .i64 0, .slice none 0 0]) ?_ 2 _ rfl; (with_reducible repeat (first | refine blk_drewN ?_ _ | refine blk_drew ?_ | refine blk_alloc ?_ _)); refine blk_put (cs := #[.int .i64 2, .string (⟨#[]⟩ : ByteArray), .int .i64 0, .slice none 0 0]) ?_ 1 _ rfl; (with_reducible repeat (first | refine blk_drewN ?_ _ | refine blk_drew ?_ | refine blk_alloc ?_ _)); refine blk_put (cs := #[.int .i64 0, .string (⟨#[]⟩ : ByteArray), .int .i64 0, .slice none 0 0]) ?_ 0 _ rfl; (with_reducible repeat (first | refine blk_drewN ?_ _ | refine blk_drew ?_ | refine blk_alloc ?_ _)); exact BK191.out) hb); have n3_ := Aside0.mk (below_step (by repeat (first | (with_reducible first | exact HB.out | apply below_alloc | apply pw_below_drewN | apply below_drew1 | refine below_set ?_ GE191.out) | exact HB.out)) hb); clear HO190; clear BK191; clear HB; have HO190 := n0_; have HO194 := n1_; have BK191 := n2_; have HB := n3_; clear n0_ n1_ n2_ n3_; clear hb ho9; obtain ⟨Ao10, co10, eo10⟩ := Kd.R_slice HO190.out; subst eo10; obtain ⟨Ao11, co11, eo11⟩ := Kd.R_slice HO194.out; subst eo11) | ((with_reducible refine gate_callee (f := 19) rfl ?_); refine goesL_ (some 14) rfl rfl Tryd.func19 (by kernel_rfl) rfl #[.slice Ao10 y188.length co10, .slice Ao11 y192.length co11] rfl (by (try simp only [List.map_toArray, List.map_cons, List.map_nil]); first | done | rfl | (simp only [List.length_drop, List.length_take]; rfl)) ?_; (with_reducible refine (breakpoint_Places.calls k _ _ y188 _ _ y192 t195 t196 _ ?side1 ?side2 ?side3 ?side4 A1.out).mono ?_); (case side1 => repeat (first | exact (Kd.R_reads' HO190.out).2.2 | (with_reducible refine Kd.C_alloc ?_ _) | (with_reducible refine Kd.C_drewN ?_ _) | (with_reducible refine Kd.C_drew ?_))); (case side2 => exact (Kd.R_reads' HO190.out).2.1); (case side3 => repeat (first | exact (Kd.R_reads' HO194.out).2.2 | (with_reducible refine Kd.C_alloc ?_ _) | (with_reducible refine Kd.C_drewN ?_ _) | (with_reducible refine Kd.C_drew ?_))); (case side4 => exact (Kd.R_reads' HO194.out).2.1); rintro e w12 ⟨v197, rfl, ho0, hb⟩; refine ⟨_, rfl, ?_⟩; have n0_ := Aside0.mk (Kd.R_below (by (with_reducible repeat (first | apply Kd.R_alloc | apply Kd.R_drewN | apply Kd.R_drew)); exact HO190.out) hb); have n1_ := Aside0.mk (Kd.R_below (by (with_reducible repeat (first | apply Kd.R_alloc | apply Kd.R_drewN | apply Kd.R_drew)); exact HO194.out) hb); have n2_ := Aside0.mk (Kd.R_lower ho0 (below_size (by repeat (first | (with_reducible first | exact HB.out | apply below_alloc | apply pw_below_drewN | apply below_drew1 | refine below_set ?_ GE191.out) | exact HB.out)))); have n3_ := Aside0.mk (blk_below (g := gb191) (o := .cells #[.int .i64 2, .string (⟨#[97]⟩ : ByteArray), .int .i64 0, .slice none 0 0] 36 (0, 0)) (by (with_reducible repeat (first | refine blk_drewN ?_ _ | refine blk_drew ?_ | refine blk_alloc ?_ _)); exact BK191.out) hb); have n4_ := Aside0.mk (below_step (by repeat (first | (with_reducible first | exact HB.out | apply below_alloc | apply pw_below_drewN | apply below_drew1 | refine below_set ?_ GE191.out) | exact HB.out)) hb); clear HO190; clear HO194; clear BK191; clear HB; have HO190 := n0_; have HO194 := n1_; have HO198 := n2_; have BK191 := n3_; have HB := n4_; clear n0_ n1_ n2_ n3_ n4_; (try clear hb); (try clear hb2); (try clear hk); (try clear hi); (try clear ho0)) | ((with_reducible refine gate_dst (N := 21) rfl ?_); (try (refine gate_guard (by rfl) ?_; dsimp only)); refine Kd.R_lit (Kd.int .i64) _ 3 ?hg (N := 21) ?hd (xs := ([0, 1] : List Int)) (inner := [.int .i64 0, .int .i64 1]) (ok := fun _ => True) (okp := fun _ => True) ?hr ?hp (fun _ hk => hk) trivial (Below.refl _ _) (Nat.le_refl _) (by simp) ?_; (case hd => rfl); (case hg => rfl); (case hr => first | (go_simp; done) | (go_simp; rfl)); (case hp => exact (Reps.one (show Kd.M (Kd.int .i64) _ _ _ 0 [.int .i64 0] from rfl) (Reps.one (show Kd.M (Kd.int .i64) _ _ _ 1 [.int .i64 1] from rfl) (Reps.none _ _)))); intro v200 w13 ho14 hb hg_ hnew_; clear hg_ hnew_; (first | rw [← Ny199.out] at ho14 | (simp only [Int.reduceToNat] at ho14; rw [← Ny199.out] at ho14)); have n0_ := Aside0.mk (Kd.R_below (by (with_reducible repeat (first | apply Kd.R_alloc | apply Kd.R_drewN | apply Kd.R_drew)); exact HO190.out) hb); have n1_ := Aside0.mk (Kd.R_below (by (with_reducible repeat (first | apply Kd.R_alloc | apply Kd.R_drewN | apply Kd.R_drew)); exact HO194.out) hb); have n2_ := Aside0.mk (Kd.R_elder' (by (with_reducible repeat (first | apply Kd.R_alloc | apply Kd.R_drewN | apply Kd.R_drew)); exact HO198.out) (Kd.R_base ho14) hb); have n3_ := Aside0.mk (Kd.R_lower (Kd.R_new' ho14 (Kd.R_lt (by (with_reducible repeat (first | apply Kd.R_alloc | apply Kd.R_drewN | apply Kd.R_drew)); exact HO198.out))) (below_size (by repeat (first | (with_reducible first | exact HB.out | apply below_alloc | apply pw_below_drewN | apply below_drew1 | refine below_set ?_ GE191.out) | exact HB.out)))); have n4_ := Aside0.mk (blk_below (g := gb191) (o := .cells #[.int .i64 2, .string (⟨#[97]⟩ : ByteArray), .int .i64 0, .slice none 0 0] 36 (0, 0)) (by (with_reducible repeat (first | refine blk_drewN ?_ _ | refine blk_drew ?_ | refine blk_alloc ?_ _)); exact BK191.out) hb); have n5_ := Aside0.mk (below_step (by repeat (first | (with_reducible first | exact HB.out | apply below_alloc | apply pw_below_drewN | apply below_drew1 | refine below_set ?_ GE191.out) | exact HB.out)) hb); clear HO190; clear HO194; clear HO198; clear BK191; clear HB; have HO190 := n0_; have HO194 := n1_; have HO198 := n2_; have HO201 := n3_; have BK191 := n4_; have HB := n5_; clear n0_ n1_ n2_ n3_ n4_ n5_; clear hb ho14; obtain ⟨Ao15, co15, eo15⟩ := Kd.R_slice HO198.out; subst eo15; obtain ⟨Ao16, co16, eo16⟩ := Kd.R_slice HO201.out; subst eo16) | (go_at_call 21; (with_reducible refine (vinculumlaw43_same.calls k _ _ t195 _ _ y199 t202 _ ?side1 ?side2 ?side3 ?side4 A3.out).mono ?_); (case side1 => repeat (first | exact (Kd.R_reads' HO198.out).2.2 | (with_reducible refine Kd.C_alloc ?_ _) | (with_reducible refine Kd.C_drewN ?_ _) | (with_reducible refine Kd.C_drew ?_))); (case side2 => exact (Kd.R_reads' HO198.out).2.1); (case side3 => repeat (first | exact (Kd.R_reads' HO201.out).2.2 | (with_reducible refine Kd.C_alloc ?_ _) | (with_reducible refine Kd.C_drewN ?_ _) | (with_reducible refine Kd.C_drew ?_))); (case side4 => exact (Kd.R_reads' HO201.out).2.1); rintro e w' ⟨rfl, ⟨nd, rfl⟩⟩))
    go_ret
    exact ⟨by first | rfl | (simp [errW_none, errW_some] <;> rfl) | (simp [*, errW_none, errW_some] <;> rfl), by repeat (first | (with_reducible first | exact HB.out | apply below_alloc | apply pw_below_drewN | apply below_drew1 | refine below_set ?_ GE191.out) | exact HB.out)⟩
  · rw [if_neg c2] at H
    have c2b0 : (t196 == 0) = false := beq_eq_false_iff_ne.mpr c2
    have c2b1 : (t196 != 0) = true := bne_iff_ne.mpr c2
    obtain rfl := Option.some.inj H
    go_enter Tryd.func17, Tryd.ntmps17
    go_wp2_with (first | ((with_reducible refine gate_dst (N := 6) rfl ?_); (try (refine gate_guard (by rfl) ?_; dsimp only)); refine Kd.R_lit k68 _ 68 ?hg (N := 6) ?hd (xs := ([(⟨(⟨#[43]⟩ : ByteArray), 2, false, false⟩ : S68)] : List (S68))) (inner := [.string (⟨#[43]⟩ : ByteArray), .int .i64 2, .bool false, .bool false]) (ok := fun _ => True) (okp := fun _ => True) ?hr ?hp (fun _ hk => hk) trivial (Below.refl _ _) (Nat.le_refl _) (by simp) ?_; (case hd => rfl); (case hg => rfl); (case hr => first | (go_simp; done) | (go_simp; rfl)); (case hp => exact (Reps.c4 (show Kd.M k68 _ _ _ (⟨(⟨#[43]⟩ : ByteArray), 2, false, false⟩ : S68) [.string (⟨#[43]⟩ : ByteArray), .int .i64 2, .bool false, .bool false] from (k68_mkM _ _ _ (⟨(⟨#[43]⟩ : ByteArray), 2, false, false⟩ : S68) )) (Reps.none _ _))); intro v189 w17 ho18 hb hg_ hnew_; clear hg_ hnew_; (first | rw [← Ny188.out] at ho18 | (simp only [Int.reduceToNat] at ho18; rw [← Ny188.out] at ho18)); have n0_ := Aside0.mk (Kd.R_lower ho18 (below_size (by repeat (first | (with_reducible first | exact HB.out | apply below_alloc | apply pw_below_drewN | apply below_drew1) | exact HB.out)))); have n1_ := Aside0.mk (below_step (by repeat (first | (with_reducible first | exact HB.out | apply below_alloc | apply pw_below_drewN | apply below_drew1) | exact HB.out)) hb); clear HB; have HO190 := n0_; have HB := n1_; clear n0_ n1_; clear hb ho18) | ((with_reducible refine gate_dst (N := 2) rfl ?_); (try (refine gate_guard (by rfl) ?_; dsimp only)); refine box_event ?hg (N := 2) ?hd (cs := #[.int .i64 0, .string (⟨#[]⟩ : ByteArray), .int .i64 0, .slice none 0 0]) (t := 36) ?hr ?_; (case hd => rfl); (case hg => rfl); (case hr => first | (go_simp; done) | (go_simp; rfl)); intro gb191 hg w19 hbox hb; have n0_ := Aside0.mk (Kd.R_below (by (with_reducible repeat (first | apply Kd.R_alloc | apply Kd.R_drewN | apply Kd.R_drew)); exact HO190.out) hb); have n1_ := Aside0.mk (below_step (by repeat (first | (with_reducible first | exact HB.out | apply below_alloc | apply pw_below_drewN | apply below_drew1) | exact HB.out)) hb); have n2_ := Aside0.mk (hbox); have n3_ := Aside0.mk ((by rw [hg]; exact (below_size (by repeat (first | (with_reducible first | exact HB.out | apply below_alloc | apply pw_below_drewN | apply below_drew1) | exact HB.out))) : w.heap.size ≤ gb191)); have n4_ := Aside0.mk ((by rw [hg]; exact (below_size (by repeat (first | (with_reducible first | exact HB.out | apply below_alloc | apply pw_below_drewN | apply below_drew1) | exact HB.out))) : w.heap.size ≤ gb191)); clear HO190; clear HB; have HO190 := n0_; have HB := n1_; have BK191 := n2_; have GW191 := n3_; have GE191 := n4_; clear n0_ n1_ n2_ n3_ n4_; clear hb hbox hg; have hcz20_0 : w19.cell? ⟨gb191, 0, none⟩ = some (.int .i64 0) := (blk_cell BK191.out 0).trans rfl; have hcz20_1 : w19.cell? ⟨gb191, 1, none⟩ = some (.string (⟨#[]⟩ : ByteArray)) := (blk_cell BK191.out 1).trans rfl; have hcz20_2 : w19.cell? ⟨gb191, 2, none⟩ = some (.int .i64 0) := (blk_cell BK191.out 2).trans rfl; have hcz20_3 : w19.cell? ⟨gb191, 3, none⟩ = some (.slice none 0 0) := (blk_cell BK191.out 3).trans rfl; have hfz20_0 := blk_frozen BK191.out 0; have hfz20_1 := blk_frozen BK191.out 1; have hfz20_2 := blk_frozen BK191.out 2; have hfz20_3 := blk_frozen BK191.out 3) | ((with_reducible refine gate_dst (N := 13) rfl ?_); (try (refine gate_guard (by rfl) ?_; dsimp only)); refine Kd.R_lit k36 _ 36 ?hg (N := 13) ?hd (xs := ([(⟨2, (⟨#[97]⟩ : ByteArray), 0, ([] : List (S36))⟩ : S36), (⟨2, (⟨#[43]⟩ : ByteArray), 0, ([] : List (S36))⟩ : S36), (⟨2, (⟨#[97]⟩ : ByteArray), 0, ([] : List (S36))⟩ : S36)] : List (S36))) (inner := [.int .i64 2, .string (⟨#[97]⟩ : ByteArray), .int .i64 0, .slice none 0 0, .int .i64 2, .string (⟨#[43]⟩ : ByteArray), .int .i64 0, .slice none 0 0, .int .i64 2, .string (⟨#[97]⟩ : ByteArray), .int .i64 0, .slice none 0 0]) (ok := fun _ => True) (okp := fun _ => True) ?hr ?hp (fun _ hk => hk) trivial (Below.refl _ _) (Nat.le_refl _) (by simp) ?_; (case hd => rfl); (case hg => rfl); (case hr => first | (go_simp; done) | (go_simp; rfl)); (case hp => exact (Reps.c4 (show Kd.M k36 _ _ _ (⟨2, (⟨#[97]⟩ : ByteArray), 0, ([] : List (S36))⟩ : S36) [.int .i64 2, .string (⟨#[97]⟩ : ByteArray), .int .i64 0, .slice none 0 0] from (k36_mkM _ _ _ (⟨2, (⟨#[97]⟩ : ByteArray), 0, ([] : List (S36))⟩ : S36) (Kd.R_nil _ _ _ _ _))) (Reps.c4 (show Kd.M k36 _ _ _ (⟨2, (⟨#[43]⟩ : ByteArray), 0, ([] : List (S36))⟩ : S36) [.int .i64 2, .string (⟨#[43]⟩ : ByteArray), .int .i64 0, .slice none 0 0] from (k36_mkM _ _ _ (⟨2, (⟨#[43]⟩ : ByteArray), 0, ([] : List (S36))⟩ : S36) (Kd.R_nil _ _ _ _ _))) (Reps.c4 (show Kd.M k36 _ _ _ (⟨2, (⟨#[97]⟩ : ByteArray), 0, ([] : List (S36))⟩ : S36) [.int .i64 2, .string (⟨#[97]⟩ : ByteArray), .int .i64 0, .slice none 0 0] from (k36_mkM _ _ _ (⟨2, (⟨#[97]⟩ : ByteArray), 0, ([] : List (S36))⟩ : S36) (Kd.R_nil _ _ _ _ _))) (Reps.none _ _))))); intro v193 w21 ho22 hb hg_ hnew_; clear hg_ hnew_; (first | rw [← Ny192.out] at ho22 | (simp only [Int.reduceToNat] at ho22; rw [← Ny192.out] at ho22)); have n0_ := Aside0.mk (Kd.R_below (by (with_reducible repeat (first | apply Kd.R_alloc | apply Kd.R_drewN | apply Kd.R_drew)); exact (Kd.R_mono (Kd.R_far (p := ⟨gb191, 3, none⟩) (Kd.R_far (p := ⟨gb191, 2, none⟩) (Kd.R_far (p := ⟨gb191, 1, none⟩) (Kd.R_far (p := ⟨gb191, 0, none⟩) (Kd.R_types HO190.out BK191.out (by decide)) (fun _ hk => hk.2) (.int .i64 2)) (fun _ hk => hk.2) (.string (⟨#[97]⟩ : ByteArray))) (fun _ hk => hk.2) (.int .i64 0)) (fun _ hk => hk.2) (.slice none 0 0)) (fun _ h_ => h_.1))) hb); have n1_ := Aside0.mk (Kd.R_lower (Kd.R_newB ho22 (g := gb191) (o := .cells #[.int .i64 2, .string (⟨#[97]⟩ : ByteArray), .int .i64 0, .slice none 0 0] 36 (0, 0)) (by (with_reducible repeat (first | refine blk_drewN ?_ _ | refine blk_drew ?_ | refine blk_alloc ?_ _)); refine blk_put (cs := #[.int .i64 2, .string (⟨#[97]⟩ : ByteArray), .int .i64 0, .slice none 0 0]) ?_ 3 _ rfl; (with_reducible repeat (first | refine blk_drewN ?_ _ | refine blk_drew ?_ | refine blk_alloc ?_ _)); refine blk_put (cs := #[.int .i64 2, .string (⟨#[97]⟩ : ByteArray), .int .i64 0, .slice none 0 0]) ?_ 2 _ rfl; (with_reducible repeat (first | refine blk_drewN ?_ _ | refine blk_drew ?_ | refine blk_alloc ?_ _)); refine blk_put (cs := #[.int .i64 2, .string (⟨#[]⟩ : ByteArray), .int .i64 0, .slice none 0 0]) ?_ 1 _ rfl; (with_reducible repeat (first | refine blk_drewN ?_ _ | refine blk_drew ?_ | refine blk_alloc ?_ _)); refine blk_put (cs := #[.int .i64 0, .string (⟨#[]⟩ : ByteArray), .int .i64 0, .slice none 0 0]) ?_ 0 _ rfl; (with_reducible repeat (first | refine blk_drewN ?_ _ | refine blk_drew ?_ | refine blk_alloc ?_ _)); exact BK191.out)) (below_size (by repeat (first | (with_reducible first | exact HB.out | apply below_alloc | apply pw_below_drewN | apply below_drew1 | refine below_set ?_ GE191.out) | exact HB.out)))); have n2_ := Aside0.mk (blk_below (g := gb191) (o := .cells #[.int .i64 2, .string (⟨#[97]⟩ : ByteArray), .int .i64 0, .slice none 0 0] 36 (0, 0)) (by (with_reducible repeat (first | refine blk_drewN ?_ _ | refine blk_drew ?_ | refine blk_alloc ?_ _)); refine blk_put (cs := #[.int .i64 2, .string (⟨#[97]⟩ : ByteArray), .int .i64 0, .slice none 0 0]) ?_ 3 _ rfl; (with_reducible repeat (first | refine blk_drewN ?_ _ | refine blk_drew ?_ | refine blk_alloc ?_ _)); refine blk_put (cs := #[.int .i64 2, .string (⟨#[97]⟩ : ByteArray), .int .i64 0, .slice none 0 0]) ?_ 2 _ rfl; (with_reducible repeat (first | refine blk_drewN ?_ _ | refine blk_drew ?_ | refine blk_alloc ?_ _)); refine blk_put (cs := #[.int .i64 2, .string (⟨#[]⟩ : ByteArray), .int .i64 0, .slice none 0 0]) ?_ 1 _ rfl; (with_reducible repeat (first | refine blk_drewN ?_ _ | refine blk_drew ?_ | refine blk_alloc ?_ _)); refine blk_put (cs := #[.int .i64 0, .string (⟨#[]⟩ : ByteArray), .int .i64 0, .slice none 0 0]) ?_ 0 _ rfl; (with_reducible repeat (first | refine blk_drewN ?_ _ | refine blk_drew ?_ | refine blk_alloc ?_ _)); exact BK191.out) hb); have n3_ := Aside0.mk (below_step (by repeat (first | (with_reducible first | exact HB.out | apply below_alloc | apply pw_below_drewN | apply below_drew1 | refine below_set ?_ GE191.out) | exact HB.out)) hb); clear HO190; clear BK191; clear HB; have HO190 := n0_; have HO194 := n1_; have BK191 := n2_; have HB := n3_; clear n0_ n1_ n2_ n3_; clear hb ho22; obtain ⟨Ao23, co23, eo23⟩ := Kd.R_slice HO190.out; subst eo23; obtain ⟨Ao24, co24, eo24⟩ := Kd.R_slice HO194.out; subst eo24) | ((with_reducible refine gate_callee (f := 19) rfl ?_); refine goesL_ (some 14) rfl rfl Tryd.func19 (by kernel_rfl) rfl #[.slice Ao23 y188.length co23, .slice Ao24 y192.length co24] rfl (by (try simp only [List.map_toArray, List.map_cons, List.map_nil]); first | done | rfl | (simp only [List.length_drop, List.length_take]; rfl)) ?_; (with_reducible refine (breakpoint_Places.calls k _ _ y188 _ _ y192 t195 t196 _ ?side1 ?side2 ?side3 ?side4 A1.out).mono ?_); (case side1 => repeat (first | exact (Kd.R_reads' HO190.out).2.2 | (with_reducible refine Kd.C_alloc ?_ _) | (with_reducible refine Kd.C_drewN ?_ _) | (with_reducible refine Kd.C_drew ?_))); (case side2 => exact (Kd.R_reads' HO190.out).2.1); (case side3 => repeat (first | exact (Kd.R_reads' HO194.out).2.2 | (with_reducible refine Kd.C_alloc ?_ _) | (with_reducible refine Kd.C_drewN ?_ _) | (with_reducible refine Kd.C_drew ?_))); (case side4 => exact (Kd.R_reads' HO194.out).2.1); rintro e w25 ⟨v197, rfl, ho0, hb⟩; refine ⟨_, rfl, ?_⟩; have n0_ := Aside0.mk (Kd.R_below (by (with_reducible repeat (first | apply Kd.R_alloc | apply Kd.R_drewN | apply Kd.R_drew)); exact HO190.out) hb); have n1_ := Aside0.mk (Kd.R_below (by (with_reducible repeat (first | apply Kd.R_alloc | apply Kd.R_drewN | apply Kd.R_drew)); exact HO194.out) hb); have n2_ := Aside0.mk (Kd.R_lower ho0 (below_size (by repeat (first | (with_reducible first | exact HB.out | apply below_alloc | apply pw_below_drewN | apply below_drew1 | refine below_set ?_ GE191.out) | exact HB.out)))); have n3_ := Aside0.mk (blk_below (g := gb191) (o := .cells #[.int .i64 2, .string (⟨#[97]⟩ : ByteArray), .int .i64 0, .slice none 0 0] 36 (0, 0)) (by (with_reducible repeat (first | refine blk_drewN ?_ _ | refine blk_drew ?_ | refine blk_alloc ?_ _)); exact BK191.out) hb); have n4_ := Aside0.mk (below_step (by repeat (first | (with_reducible first | exact HB.out | apply below_alloc | apply pw_below_drewN | apply below_drew1 | refine below_set ?_ GE191.out) | exact HB.out)) hb); clear HO190; clear HO194; clear BK191; clear HB; have HO190 := n0_; have HO194 := n1_; have HO198 := n2_; have BK191 := n3_; have HB := n4_; clear n0_ n1_ n2_ n3_ n4_; (try clear hb); (try clear hb2); (try clear hk); (try clear hi); (try clear ho0)))
    go_ret
    exact ⟨by first | rfl | (simp [errW_none, errW_some] <;> rfl) | (simp [*, errW_none, errW_some] <;> rfl), by repeat (first | (with_reducible first | exact HB.out | apply below_alloc | apply pw_below_drewN | apply below_drew1 | refine below_set ?_ GE191.out) | exact HB.out)⟩
end Go.Proofs.YtagkhoeidjlahaaDoor.G
namespace Go.Proofs.YtagkhoeidjlahaaDoor.G.Pure
open Go.Proofs.YtagkhoeidjlahaaDoorW.PrintWords Go.RowKit
set_option linter.unusedVariables false
set_option linter.unusedSimpArgs false
theorem fewI_ev (items : List S36) (h : OkL OkNode items) : Ev (fun k => vinculumref26_Few.f k items 300) (decide ((cnt (rowN items) : Int) ≤ 300)) := by
  unfold vinculumref26_Few.f vinculumref09_ToRow.f
  simp only [Option.bind_some]
  exact ev_bind (few_ev (rowN items) (rowN_ok h) 300 (by omega) (by omega)) (Ev.now _)
def perB (cs : List Int) (i : Nat) : Bool := (rd cs i == 3 || rd cs i == 2) && rd cs ((i : Int) - 1) != 3
def plc (cs : List Int) : Nat → Nat → List Int
  | 0, _ => []
  | m + 1, i => if perB cs i = true then (i : Int) :: plc cs m (i + 1) else plc cs m (i + 1)
theorem per_eq (cs : List Int) (i : Nat) : breakpoint_permitted.f (rd cs ((i : Int) - 1)) (rd cs i) = some (perB cs i) := by
  unfold breakpoint_permitted.f perB
  by_cases h3 : rd cs i = 3
  · simp [h3]
  by_cases h2 : rd cs i = 2
  · simp [h2]
  simp [h3, h2]
theorem pPl_l (cs : List Int) (hl : cs.length ≤ 1000000) : ∀ (m i : Nat) (out : List Int), cs.length - i = m → 1 ≤ i → out.length ≤ i → Ev (fun k => breakpoint_Places.l0 k cs out i) (out ++ plc cs m i, 0) := by
  intro m
  induction m with
  | zero =>
    intro i out h1 h2 h3
    refine Ev.step (fun k => by rw [breakpoint_Places.l0]) ?_
    refine ev_if (fun h => by omega) fun _ => ev_now ?_
    rw [plc, List.append_nil]
  | succ m ih =>
    intro i out h1 h2 h3
    refine Ev.step (fun k => by rw [breakpoint_Places.l0]) ?_
    rw [wr (n := (i : Int) - 1) (by omega), wr (n := (i : Int) + 1) (by omega)]
    refine ev_if (fun _ => ?_) fun h => by omega
    refine ev_if (fun _ => ?_) fun h => by omega
    refine ev_if (fun _ => ?_) fun h => by omega
    refine ev_if (fun _ => ?_) fun h => by omega
    rw [per_eq]
    simp only [Option.bind_some]
    rw [plc]
    refine ev_if (fun hp => ?_) fun hp => ?_
    · refine ev_if (fun _ => ?_) fun h => by omega
      rw [if_pos hp]
      have := ih (i + 1) (out ++ [(i : Int)]) (by omega) (by omega) (by simp; omega)
      rw [List.append_assoc, List.singleton_append] at this
      exact_mod_cast this
    · rw [if_neg hp]
      exact_mod_cast ih (i + 1) out (by omega) (by omega) (by omega)
theorem rPl_l (items : List S36) (cs : List Int) (hl : cs.length ≤ 1000000) (he : items.length = cs.length) : ∀ (m i : Nat) (out : List Int), cs.length - i = m → 1 ≤ i → out.length ≤ i → Ev (fun k => vinculumref43_Places.l0 k items cs out i) (out ++ plc cs m i, 0) := by
  intro m
  induction m with
  | zero =>
    intro i out h1 h2 h3
    refine Ev.step (fun k => by rw [vinculumref43_Places.l0]) ?_
    refine ev_if (fun h => by omega) fun _ => ev_now ?_
    rw [plc, List.append_nil]
  | succ m ih =>
    intro i out h1 h2 h3
    refine Ev.step (fun k => by rw [vinculumref43_Places.l0]) ?_
    rw [wr (n := (i : Int) - 1) (by omega), wr (n := (i : Int) + 1) (by omega)]
    refine ev_if (fun _ => ?_) fun h => by omega
    refine ev_if (fun _ => ?_) fun h => by omega
    refine ev_if (fun _ => ?_) fun h => by omega
    rw [plc]
    have yes : out.length < 17592186044416 → perB cs i = true → Ev (fun k => vinculumref43_Places.l0 k items cs (out ++ [(i : Int)]) ((i : Int) + 1)) (out ++ (if perB cs i = true then (i : Int) :: plc cs m (i + 1) else plc cs m (i + 1)), 0) := fun _ hp => by
      rw [if_pos hp]
      have := ih (i + 1) (out ++ [(i : Int)]) (by omega) (by omega) (by simp; omega)
      rw [List.append_assoc, List.singleton_append] at this
      exact_mod_cast this
    have no : perB cs i = false → Ev (fun k => vinculumref43_Places.l0 k items cs out ((i : Int) + 1)) (out ++ (if perB cs i = true then (i : Int) :: plc cs m (i + 1) else plc cs m (i + 1)), 0) := fun hp => by
      rw [if_neg (by rw [hp]; simp)]
      exact_mod_cast ih (i + 1) out (by omega) (by omega) (by omega)
    refine ev_if (fun h3 => ?_) fun h3 => ?_
    · refine ev_if (fun _ => ?_) fun h => by omega
      refine ev_if (fun _ => ?_) fun h => by omega
      refine ev_if (fun hb => no (by unfold perB; simp [hb])) fun hb => ?_
      exact ev_if (fun hlt => yes hlt (by unfold perB; simp [hb, h3])) fun h => by omega
    refine ev_if (fun h2 => ?_) fun h2 => no (by unfold perB; simp [h2, h3])
    refine ev_if (fun _ => ?_) fun h => by omega
    refine ev_if (fun _ => ?_) fun h => by omega
    refine ev_if (fun hb => no (by unfold perB; simp [hb])) fun hb => ?_
    exact ev_if (fun hlt => yes hlt (by unfold perB; simp [hb, h2])) fun h => by omega
def plB (d : List S68) (items : List S36) : List Int × Int := if (clsB d items).2 = 0 then (if items.length = 0 then ([], 8) else (0 :: plc (clsB d items).1 (items.length - 1) 1, 0)) else ([], (clsB d items).2)
theorem clsB_len (d : List S68) (items : List S36) (h : (clsB d items).2 = 0) : (clsB d items).1.length = items.length := by
  unfold clsB at h ⊢
  split at h
  · rename_i hc; rw [if_pos hc, clsR_len, List.length_map]
  · simp at h
theorem pPl_ev (d : List S68) (items : List S36) (hd : d.length ≤ 1000000) (h : OkL OkNode items) (hi : items.length ≤ 1000000) : Ev (fun k => breakpoint_Places.f k d items) (plB d items) := by
  unfold breakpoint_Places.f plB
  refine ev_bind (pClasses_ev d items hd h hi) ?_
  refine ev_if (fun h0 => ?_) fun h0 => ev_now (by rw [if_neg h0])
  rw [if_pos h0]
  refine ev_if (fun h1 => ev_now (by rw [if_pos (by omega)])) fun h1 => ?_
  rw [if_neg (by omega)]
  have e := clsB_len d items h0
  have := pPl_l (clsB d items).1 (by omega) (items.length - 1) 1 [0] (by omega) (by omega) (by simp)
  exact_mod_cast this
theorem rPl_ev (d : List S68) (items : List S36) (hd : d.length ≤ 1000000) (ho : ∀ x ∈ d, OkEntry x) (h : OkL OkNode items) (hc : cnt (rowN items) ≤ 1000000) : Ev (fun k => vinculumref43_Places.f k d items) (plB d items) := by
  have hi := len_cnt items
  unfold vinculumref43_Places.f plB
  refine ev_bind (rClasses_ev d items hd ho h hc) ?_
  refine ev_if (fun h0 => ?_) fun h0 => ev_now (by rw [if_neg h0])
  rw [if_pos h0]
  refine ev_if (fun h1 => ev_now (by rw [if_pos (by omega)])) fun h1 => ?_
  rw [if_neg (by omega)]
  have e := clsB_len d items h0
  have := rPl_l items (clsB d items).1 (by omega) e.symm (items.length - 1) 1 [0] (by omega) (by omega) (by simp)
  exact_mod_cast this
theorem same43_l (a b : List Int) (hl : a.length ≤ M) (he : a.length = b.length) : ∀ (m i : Nat), a.length - i = m → Ev (fun k => vinculumlaw43_same.l0 k a b i) (decide (a.drop i = b.drop i)) := by
  intro m
  induction m with
  | zero =>
    intro i hi
    refine Ev.step (fun k => by rw [vinculumlaw43_same.l0]) ?_
    refine ev_if (fun h => by omega) fun _ => ev_now ?_
    rw [List.drop_eq_nil_of_le (by omega), List.drop_eq_nil_of_le (by omega)]; rfl
  | succ m ih =>
    intro i hi
    unfold M at hl
    refine Ev.step (fun k => by rw [vinculumlaw43_same.l0]) ?_
    refine ev_if (fun _ => ?_) fun h => by omega
    refine ev_if (fun _ => ?_) fun h => by omega
    refine ev_if (fun _ => ?_) fun h => by omega
    rw [rdI_at a i (by omega), rdI_at b i (by omega), List.drop_eq_getElem_cons (show i < a.length by omega), List.drop_eq_getElem_cons (show i < b.length by omega)]
    refine ev_if (fun h => ?_) fun h => ev_now ?_
    · rw [wr (n := (i : Int) + 1) (by omega)]
      have := ih (i + 1) (by omega)
      rw [decide_eq_decide.2 (show (a[i] :: a.drop (i + 1) = b[i]'(by omega) :: b.drop (i + 1)) ↔ (a.drop (i + 1) = b.drop (i + 1)) from ⟨fun e => (List.cons.inj e).2, fun e => by rw [h, e]⟩)]
      exact_mod_cast this
    · rw [decide_eq_false (fun e => h (List.cons.inj e).1)]
theorem same43_ev (a b : List Int) (hl : a.length ≤ M) : Ev (fun k => vinculumlaw43_same.f k a b) (decide (a = b)) := by
  unfold vinculumlaw43_same.f
  refine ev_if (fun h => ?_) fun h => ev_now ?_
  · have := same43_l a b hl (by omega) a.length 0 rfl
    simpa using this
  · rw [decide_eq_false (fun e => h (by rw [e]))]
def dA : List S68 := [⟨⟨#[43]⟩, 2, false, false⟩]
def iA : List S36 := [⟨2, ⟨#[97]⟩, 0, []⟩, ⟨2, ⟨#[43]⟩, 0, []⟩, ⟨2, ⟨#[97]⟩, 0, []⟩]
theorem leaf_ok (s : ByteArray) (hs : s.size ≤ 9223372036854775807) : OkNode ⟨2, s, 0, []⟩ := OkNode.mk _ (show OkI .i64 2 by unfold OkI; decide) (show OkS s from hs) (show OkI .i64 0 by unfold OkI; decide) (Nat.zero_le _) (fun y h => by cases h)
theorem iA_ok : OkL OkNode iA := ⟨by decide, fun x h => by
  unfold iA at h
  simp only [List.mem_cons, List.not_mem_nil, or_false] at h
  rcases h with rfl | rfl | rfl <;> exact leaf_ok _ (by decide)⟩
theorem plA : plB dA iA = ([0, 1], 0) := by decide +kernel
theorem awake43_ev : Ev (fun k => vinculumlaw43_awake.f k) true := by
  unfold vinculumlaw43_awake.f
  have h := pPl_ev dA iA (by decide) iA_ok (by decide)
  rw [plA] at h
  refine ev_bind h ?_
  refine ev_if (fun _ => ?_) fun h => absurd rfl h
  have := same43_ev [0, 1] [0, 1] (by decide)
  exact ev_bind this (ev_now rfl)
theorem guard43 {α : Type} (d : List S68) (items : List S36) (h : OkL OkNode items) {g : Nat → Bool → Option Bool} (ht : Ev (fun k => g k true) true) (hf : d.length ≤ 300 → cnt (rowN items) ≤ 300 → Ev (fun k => g k false) true) :
    Ev (fun k => (vinculumlaw43_awake.f k).bind fun t330 => (if t330 = true then (if (d.length : Int) > 300 then (g k true) else ((vinculumref26_Few.f k items 300).bind fun t331 => (g k (!t331)))) else (some false))) true := by
  refine ev_bind awake43_ev ?_
  refine ev_if (fun _ => ?_) fun h => absurd rfl h
  refine ev_if (fun _ => ht) fun hd => ?_
  refine ev_bind (fewI_ev items h) ?_
  by_cases hc : (cnt (rowN items) : Int) ≤ 300
  · rw [decide_eq_true hc]; exact hf (by omega) (by omega)
  · rw [decide_eq_false hc]; exact ht
end Go.Proofs.YtagkhoeidjlahaaDoor.G.Pure
namespace Go.Proofs.YtagkhoeidjlahaaDoor.G.Pure
open Go.Proofs.YtagkhoeidjlahaaDoorW.PrintWords Go.RowKit
set_option linter.unusedVariables false
set_option linter.unusedSimpArgs false
theorem lastI_at (out : List Int) (h : 0 < out.length) : lastI out = out[out.length - 1] := by
  unfold lastI
  rw [show (out.length : Int) - 1 = ((out.length - 1 : Nat) : Int) by omega, rdI_at _ _ (by omega)]
structure Good (out : List Int) : Prop where
  before : ∀ (i : Nat) (h : i + 1 < out.length), out[i + 1] = 2 → opB (out[i]'(by omega)) = false
  behind : ∀ (i : Nat) (h : i + 1 < out.length), out[i]'(by omega) = 2 → out[i + 1] ≠ 2 ∧ clB out[i + 1] = false
  first : ∀ h : 0 < out.length, out[0] ≠ 2
theorem good_nil : Good [] := ⟨fun i h => by simp at h, fun i h => by simp at h, fun h => by simp at h⟩
theorem good_snoc {out : List Int} {c : Int} (g : Good out) (h1 : ∀ h : 0 < out.length, c = 2 → opB (out[out.length - 1]) = false) (h2 : ∀ h : 0 < out.length, out[out.length - 1] = 2 → c ≠ 2 ∧ clB c = false) (h3 : out.length = 0 → c ≠ 2) : Good (out ++ [c]) := by
  have lst : ∀ (i : Nat) (h : i + 1 < (out ++ [c]).length), ¬ i + 1 < out.length → i + 1 = out.length := fun i h hn => by simp at h; omega
  refine ⟨fun i h => ?_, fun i h => ?_, fun h => ?_⟩
  · by_cases hi : i + 1 < out.length
    · rw [List.getElem_append_left hi, List.getElem_append_left (show i < out.length by omega)]; exact g.before i hi
    · have e := lst i h hi
      rw [List.getElem_append_right (show out.length ≤ i + 1 by omega), List.getElem_append_left (show i < out.length by omega)]
      intro hc
      have := h1 (by omega) (by simpa [e] using hc)
      simpa [← e] using this
  · by_cases hi : i + 1 < out.length
    · rw [List.getElem_append_left hi, List.getElem_append_left (show i < out.length by omega)]; exact g.behind i hi
    · have e := lst i h hi
      rw [List.getElem_append_right (show out.length ≤ i + 1 by omega), List.getElem_append_left (show i < out.length by omega)]
      intro hc
      have := h2 (by omega) (by simpa [← e] using hc)
      simpa [e] using this
  · by_cases hi : 0 < out.length
    · rw [List.getElem_append_left hi]; exact g.first hi
    · rw [List.getElem_append_right (show out.length ≤ 0 by omega)]
      have := h3 (by omega)
      simpa using this
theorem good_set {out : List Int} (g : Good out) : Good (out.set (out.length - 1) 0) := by
  have op0 : clB 0 = false := rfl
  refine ⟨fun i h => ?_, fun i h => ?_, fun h => ?_⟩
  · rw [List.length_set] at h
    rw [List.getElem_set, List.getElem_set]
    by_cases hi : out.length - 1 = i + 1
    · rw [if_pos hi]; intro h0; omega
    · rw [if_neg hi, if_neg (by omega)]; exact g.before i h
  · rw [List.length_set] at h
    rw [List.getElem_set, List.getElem_set, if_neg (by omega)]
    by_cases hi : out.length - 1 = i + 1
    · rw [if_pos hi]; intro _; exact ⟨by omega, op0⟩
    · rw [if_neg hi]; exact g.behind i h
  · rw [List.length_set] at h
    rw [List.getElem_set]
    split
    · omega
    · exact g.first h
theorem good_step {out : List Int} (g : Good out) (c : Int) : Good (stepP out c) := by
  unfold stepP
  split
  · rename_i h2
    split
    · exact good_snoc g (fun _ h => by omega) (fun _ _ => ⟨by omega, rfl⟩) (fun _ => by omega)
    · rename_i hn
      have hn1 : ¬ out.length = 0 := fun h => hn (.inl h)
      have hb : opB (lastI out) = false := Bool.eq_false_iff.2 fun h => hn (.inr h)
      rw [lastI_at out (by omega)] at hb
      refine good_snoc g (fun _ _ => hb) (fun h e => ?_) (fun h => absurd h hn1)
      rw [e] at hb; cases hb
  · rename_i h2
    unfold stepF
    split
    · rename_i h
      refine good_snoc (good_set g) (fun _ h => absurd h h2) (fun hl e => ?_) (fun _ => h2)
      simp at e
    · rename_i hn
      refine good_snoc g (fun _ h => absurd h h2) (fun hl e => ⟨h2, Bool.eq_false_iff.2 fun hb => hn ⟨hb, hl, ?_⟩⟩) (fun _ => h2)
      rw [lastI_at out hl]; exact e
theorem good_fold (vs : List Int) : ∀ {out : List Int}, Good out → Good (vs.foldl stepP out) := by
  induction vs with
  | nil => intro out g; exact g
  | cons v vs ih => intro out g; rw [List.foldl_cons]; exact ih (good_step g v)
theorem good_fin {out : List Int} (g : Good out) : Good (finP out) := by
  unfold finP
  split
  · exact good_set g
  · exact g
theorem good_cls (vs : List Int) : Good (clsR vs) := good_fin (good_fold vs good_nil)
theorem step_keep (out : List Int) (c : Int) (i : Nat) (h : i + 1 < out.length) : (stepP out c)[i]'(by rw [stepP_len]; omega) = out[i] := by
  unfold stepP stepF
  split
  · split <;> rw [List.getElem_append_left (by omega)]
  · split
    · rw [List.getElem_append_left (by simp; omega), List.getElem_set, if_neg (by omega)]
    · rw [List.getElem_append_left (by omega)]
theorem fold_keep (vs : List Int) : ∀ (out : List Int) (i : Nat) (h : i + 1 < out.length), (vs.foldl stepP out)[i]'(by rw [fold_len]; omega) = out[i] := by
  induction vs with
  | nil => intro out i h; rfl
  | cons v vs ih =>
    intro out i h
    have := ih (stepP out v) i (by rw [stepP_len]; omega)
    simp only [List.foldl_cons]
    rw [this, step_keep out v i h]
theorem fin_keep (out : List Int) (i : Nat) (h : i + 1 < out.length) : (finP out)[i]'(by rw [fin_len]; omega) = out[i] := by
  unfold finP
  split
  · rw [List.getElem_set, if_neg (by omega)]
  · rfl
theorem cls_take (vs : List Int) (n i : Nat) (hn : n ≤ vs.length) (h : i + 1 < n) : (clsR vs)[i]'(by rw [clsR_len]; omega) = (clsR (vs.take n))[i]'(by rw [clsR_len, List.length_take]; omega) := by
  have l1 : ((vs.take n).foldl stepP []).length = n := by rw [fold_len, List.length_take]; simp; omega
  have e : vs.foldl stepP [] = (vs.drop n).foldl stepP ((vs.take n).foldl stepP []) := by rw [← List.foldl_append, List.take_append_drop]
  have l2 : ((vs.drop n).foldl stepP ((vs.take n).foldl stepP [])).length = vs.length := by rw [← e, fold_len]; simp
  unfold clsR
  rw [fin_keep ((vs.take n).foldl stepP []) i (by omega)]
  simp only [e]
  rw [fin_keep _ i (by omega), fold_keep _ _ i (by omega)]
end Go.Proofs.YtagkhoeidjlahaaDoor.G.Pure
