-- Written by pack2.py: this session's texts and the printer's, pruned.
import Derived.Test.YtagkhoeidjlahaaDoorCSe2
import Derived.Test.YtagkhoeidjlahaaDoorCSe22
namespace Go.Proofs.YtagkhoeidjlahaaDoor.G
open Go.RowKit Go.Proofs.YtagkhoeidjlahaaDoorW.PrintWords Go.Proofs.YtagkhoeidjlahaaDoorW.PrintLast Go.Proofs.YtagkhoeidjlahaaDoorW.PrintMore
attribute [local go_sem] max2_int min2_int max_two min_two max_three min_three max_four min_four
set_option linter.unusedVariables false
set_option linter.unusedSimpArgs false
def cmp_Compare_int.f (a0 : Int) (a1 : Int) : Option (Int) := (cmp_isNaN_int.f a0).bind fun t390 => ((cmp_isNaN_int.f a1).bind fun t391 => (if t390 = true then (if t391 = true then (some 0) else (some (-1))) else (if t391 = true then (some 1) else (if a0 < a1 then (some (-1)) else (if a0 > a1 then (some 1) else (some 0))))))
set_option maxHeartbeats 8000000 in
set_option maxRecDepth 100000 in
theorem cmp_Compare_int.calls (a0 : Int) (a1 : Int) (r : Int) (w : World) (h : cmp_Compare_int.f a0 a1 = some r) :
  Calls Tryd.prog 98 #[.int .i64 a0, .int .i64 a1] w fun e w' => e = .returned (.int .i64 r) ∧ Drawn0 w w' := by
 have H : ((cmp_isNaN_int.f a0).bind fun t390 => ((cmp_isNaN_int.f a1).bind fun t391 => (if t390 = true then (if t391 = true then (some 0) else (some (-1))) else (if t391 = true then (some 1) else (if a0 < a1 then (some (-1)) else (if a0 > a1 then (some 1) else (some 0))))))) = some r := h
 clear h
 replace H := Option.bind_eq_some_iff.mp H
 obtain ⟨t390, A30, H⟩ := H
 replace H : ((cmp_isNaN_int.f a1).bind fun t391 => (if t390 = true then (if t391 = true then (some 0) else (some (-1))) else (if t391 = true then (some 1) else (if a0 < a1 then (some (-1)) else (if a0 > a1 then (some 1) else (some 0)))))) = some r := H
 have A3 := Aside0.mk A30
 clear A30
 replace H := Option.bind_eq_some_iff.mp H
 obtain ⟨t391, A40, H⟩ := H
 replace H : (if t390 = true then (if t391 = true then (some 0) else (some (-1))) else (if t391 = true then (some 1) else (if a0 < a1 then (some (-1)) else (if a0 > a1 then (some 1) else (some 0))))) = some r := H
 have A4 := Aside0.mk A40
 clear A40
 by_cases c5 : t390 = true
 ·
  subst c5
  have H1 : (if t391 = true then (some 0) else (some (-1))) = some r := by rw [if_pos rfl] at H; exact H
  clear H
  have H := H1
  clear H1
  by_cases c6 : t391 = true
  ·
   subst c6
   have H1 : (some 0) = some r := by rw [if_pos rfl] at H; exact H
   clear H
   have H := H1
   clear H1
   obtain rfl := Option.some.inj H
   go_enter Tryd.func98, Tryd.ntmps98
   go_wp2_with (first | ((with_reducible refine gate_callee (f := 112) rfl ?_); refine goesL_ (some 8) rfl rfl Tryd.func112 (by kernel_rfl) rfl #[.int .i64 a0] rfl (by (try simp only [List.map_toArray, List.map_cons, List.map_nil]); first | done | rfl | (simp only [List.length_drop, List.length_take]; rfl)) ?_; (with_reducible refine (cmp_isNaN_int.calls a0 true _ A3.out).mono ?_); rintro e w' ⟨rfl, ⟨nd, rfl⟩⟩; refine ⟨_, rfl, ?_⟩) | ((with_reducible refine gate_callee (f := 112) rfl ?_); refine goesL_ (some 10) rfl rfl Tryd.func112 (by kernel_rfl) rfl #[.int .i64 a1] rfl (by (try simp only [List.map_toArray, List.map_cons, List.map_nil]); first | done | rfl | (simp only [List.length_drop, List.length_take]; rfl)) ?_; (with_reducible refine (cmp_isNaN_int.calls a1 true _ A4.out).mono ?_); rintro e w' ⟨rfl, ⟨nd, rfl⟩⟩; refine ⟨_, rfl, ?_⟩))
   go_ret
   exact ⟨by first | rfl | (simp; done) | (simp [*]; done), by repeat (first | exact Drawn0.refl _ | apply Drawn0.step)⟩
  ·
   replace c6 := Bool.eq_false_iff.mpr c6
   subst c6
   have H1 : (some (-1)) = some r := by rw [if_neg (show ¬ (false = true) by decide)] at H; exact H
   clear H
   have H := H1
   clear H1
   obtain rfl := Option.some.inj H
   go_enter Tryd.func98, Tryd.ntmps98
   go_wp2_with (first | ((with_reducible refine gate_callee (f := 112) rfl ?_); refine goesL_ (some 8) rfl rfl Tryd.func112 (by kernel_rfl) rfl #[.int .i64 a0] rfl (by (try simp only [List.map_toArray, List.map_cons, List.map_nil]); first | done | rfl | (simp only [List.length_drop, List.length_take]; rfl)) ?_; (with_reducible refine (cmp_isNaN_int.calls a0 true _ A3.out).mono ?_); rintro e w' ⟨rfl, ⟨nd, rfl⟩⟩; refine ⟨_, rfl, ?_⟩) | ((with_reducible refine gate_callee (f := 112) rfl ?_); refine goesL_ (some 10) rfl rfl Tryd.func112 (by kernel_rfl) rfl #[.int .i64 a1] rfl (by (try simp only [List.map_toArray, List.map_cons, List.map_nil]); first | done | rfl | (simp only [List.length_drop, List.length_take]; rfl)) ?_; (with_reducible refine (cmp_isNaN_int.calls a1 false _ A4.out).mono ?_); rintro e w' ⟨rfl, ⟨nd, rfl⟩⟩; refine ⟨_, rfl, ?_⟩))
   go_ret
   exact ⟨by first | rfl | (simp; done) | (simp [*]; done), by repeat (first | exact Drawn0.refl _ | apply Drawn0.step)⟩
 ·
  replace c5 := Bool.eq_false_iff.mpr c5
  subst c5
  have H1 : (if t391 = true then (some 1) else (if a0 < a1 then (some (-1)) else (if a0 > a1 then (some 1) else (some 0)))) = some r := by rw [if_neg (show ¬ (false = true) by decide)] at H; exact H
  clear H
  have H := H1
  clear H1
  by_cases c7 : t391 = true
  ·
   subst c7
   have H1 : (some 1) = some r := by rw [if_pos rfl] at H; exact H
   clear H
   have H := H1
   clear H1
   obtain rfl := Option.some.inj H
   go_enter Tryd.func98, Tryd.ntmps98
   go_wp2_with (first | ((with_reducible refine gate_callee (f := 112) rfl ?_); refine goesL_ (some 8) rfl rfl Tryd.func112 (by kernel_rfl) rfl #[.int .i64 a0] rfl (by (try simp only [List.map_toArray, List.map_cons, List.map_nil]); first | done | rfl | (simp only [List.length_drop, List.length_take]; rfl)) ?_; (with_reducible refine (cmp_isNaN_int.calls a0 false _ A3.out).mono ?_); rintro e w' ⟨rfl, ⟨nd, rfl⟩⟩; refine ⟨_, rfl, ?_⟩) | ((with_reducible refine gate_callee (f := 112) rfl ?_); refine goesL_ (some 10) rfl rfl Tryd.func112 (by kernel_rfl) rfl #[.int .i64 a1] rfl (by (try simp only [List.map_toArray, List.map_cons, List.map_nil]); first | done | rfl | (simp only [List.length_drop, List.length_take]; rfl)) ?_; (with_reducible refine (cmp_isNaN_int.calls a1 true _ A4.out).mono ?_); rintro e w' ⟨rfl, ⟨nd, rfl⟩⟩; refine ⟨_, rfl, ?_⟩))
   go_ret
   exact ⟨by first | rfl | (simp; done) | (simp [*]; done), by repeat (first | exact Drawn0.refl _ | apply Drawn0.step)⟩
  ·
   replace c7 := Bool.eq_false_iff.mpr c7
   subst c7
   have H1 : (if a0 < a1 then (some (-1)) else (if a0 > a1 then (some 1) else (some 0))) = some r := by rw [if_neg (show ¬ (false = true) by decide)] at H; exact H
   clear H
   have H := H1
   clear H1
   by_cases c8 : a0 < a1
   ·
    rw [if_pos c8] at H
    have c8b0 : decide (a0 < a1) = true := decide_eq_true c8
    clear c8
    obtain rfl := Option.some.inj H
    go_enter Tryd.func98, Tryd.ntmps98
    go_wp2_with (first | ((with_reducible refine gate_callee (f := 112) rfl ?_); refine goesL_ (some 8) rfl rfl Tryd.func112 (by kernel_rfl) rfl #[.int .i64 a0] rfl (by (try simp only [List.map_toArray, List.map_cons, List.map_nil]); first | done | rfl | (simp only [List.length_drop, List.length_take]; rfl)) ?_; (with_reducible refine (cmp_isNaN_int.calls a0 false _ A3.out).mono ?_); rintro e w' ⟨rfl, ⟨nd, rfl⟩⟩; refine ⟨_, rfl, ?_⟩) | ((with_reducible refine gate_callee (f := 112) rfl ?_); refine goesL_ (some 10) rfl rfl Tryd.func112 (by kernel_rfl) rfl #[.int .i64 a1] rfl (by (try simp only [List.map_toArray, List.map_cons, List.map_nil]); first | done | rfl | (simp only [List.length_drop, List.length_take]; rfl)) ?_; (with_reducible refine (cmp_isNaN_int.calls a1 false _ A4.out).mono ?_); rintro e w' ⟨rfl, ⟨nd, rfl⟩⟩; refine ⟨_, rfl, ?_⟩))
    go_ret
    exact ⟨by first | rfl | (simp; done) | (simp [*]; done), by repeat (first | exact Drawn0.refl _ | apply Drawn0.step)⟩
   ·
    rw [if_neg c8] at H
    have c8b0 : decide (a0 < a1) = false := decide_eq_false c8
    clear c8
    by_cases c9 : a0 > a1
    ·
     rw [if_pos c9] at H
     have c9b0 : decide (a1 < a0) = true := decide_eq_true c9
     clear c9
     obtain rfl := Option.some.inj H
     go_enter Tryd.func98, Tryd.ntmps98
     go_wp2_with (first | ((with_reducible refine gate_callee (f := 112) rfl ?_); refine goesL_ (some 8) rfl rfl Tryd.func112 (by kernel_rfl) rfl #[.int .i64 a0] rfl (by (try simp only [List.map_toArray, List.map_cons, List.map_nil]); first | done | rfl | (simp only [List.length_drop, List.length_take]; rfl)) ?_; (with_reducible refine (cmp_isNaN_int.calls a0 false _ A3.out).mono ?_); rintro e w' ⟨rfl, ⟨nd, rfl⟩⟩; refine ⟨_, rfl, ?_⟩) | ((with_reducible refine gate_callee (f := 112) rfl ?_); refine goesL_ (some 10) rfl rfl Tryd.func112 (by kernel_rfl) rfl #[.int .i64 a1] rfl (by (try simp only [List.map_toArray, List.map_cons, List.map_nil]); first | done | rfl | (simp only [List.length_drop, List.length_take]; rfl)) ?_; (with_reducible refine (cmp_isNaN_int.calls a1 false _ A4.out).mono ?_); rintro e w' ⟨rfl, ⟨nd, rfl⟩⟩; refine ⟨_, rfl, ?_⟩))
     go_ret
     exact ⟨by first | rfl | (simp; done) | (simp [*]; done), by repeat (first | exact Drawn0.refl _ | apply Drawn0.step)⟩
    ·
     rw [if_neg c9] at H
     have c9b0 : decide (a1 < a0) = false := decide_eq_false c9
     clear c9
     obtain rfl := Option.some.inj H
     go_enter Tryd.func98, Tryd.ntmps98
     go_wp2_with (first | ((with_reducible refine gate_callee (f := 112) rfl ?_); refine goesL_ (some 8) rfl rfl Tryd.func112 (by kernel_rfl) rfl #[.int .i64 a0] rfl (by (try simp only [List.map_toArray, List.map_cons, List.map_nil]); first | done | rfl | (simp only [List.length_drop, List.length_take]; rfl)) ?_; (with_reducible refine (cmp_isNaN_int.calls a0 false _ A3.out).mono ?_); rintro e w' ⟨rfl, ⟨nd, rfl⟩⟩; refine ⟨_, rfl, ?_⟩) | ((with_reducible refine gate_callee (f := 112) rfl ?_); refine goesL_ (some 10) rfl rfl Tryd.func112 (by kernel_rfl) rfl #[.int .i64 a1] rfl (by (try simp only [List.map_toArray, List.map_cons, List.map_nil]); first | done | rfl | (simp only [List.length_drop, List.length_take]; rfl)) ?_; (with_reducible refine (cmp_isNaN_int.calls a1 false _ A4.out).mono ?_); rintro e w' ⟨rfl, ⟨nd, rfl⟩⟩; refine ⟨_, rfl, ?_⟩))
     go_ret
     exact ⟨by first | rfl | (simp; done) | (simp [*]; done), by repeat (first | exact Drawn0.refl _ | apply Drawn0.step)⟩
def slices_Compare_int_int.l0 : Nat → List Int → List Int → List Int → Int → Int → Option (Int)
 | 0, _, _, _, _, _ => none
 | k + 1, x0, x1, x9, x10, x11 => if x11 < x10 then (if 0 ≤ x11 then (if x11 < (x9.length : Int) then (if x11 ≥ (x1.length : Int) then (some 1) else (if x11 < (x1.length : Int) then ((cmp_Compare_int.f (rd x9 x11) (rd x1 x11)).bind fun t394 => (if t394 = 0 then (slices_Compare_int_int.l0 k x0 x1 x9 x10 (wrap64 (x11 + 1))) else (some t394))) else (none))) else (none)) else (none)) else (if (x0.length : Int) < (x1.length : Int) then (some (-1)) else (some 0))
def slices_Compare_int_int.f (k : Nat) (l0 : List Int) (l1 : List Int) : Option (Int) := slices_Compare_int_int.l0 k l0 l1 l0 (l0.length : Int) 0
set_option maxHeartbeats 8000000 in
set_option maxRecDepth 100000 in
theorem slices_Compare_int_int.calls (k : Nat) (A0 : Option Addr) (c0 : Nat) (l0 : List Int) (A1 : Option Addr) (c1 : Nat) (l1 : List Int) (r : Int) (w : World) (hr0 : Kd.C (Kd.int .i64) w A0 l0.length l0) (hc0 : l0.length ≤ c0) (hr1 : Kd.C (Kd.int .i64) w A1 l1.length l1) (hc1 : l1.length ≤ c1) (h : slices_Compare_int_int.f k l0 l1 = some r) :
  Calls Tryd.prog 70 #[.slice A0 l0.length c0, .slice A1 l1.length c1] w fun e w' => e = .returned (.int .i64 r) ∧ Drawn0 w w' := by
 have HR0 := Aside0.mk hr0
 have HC0 := Aside0.mk hc0
 clear hr0 hc0
 have HR1 := Aside0.mk hr1
 have HC1 := Aside0.mk hc1
 clear hr1 hc1
 have H : (slices_Compare_int_int.l0 k l0 l1 l0 (l0.length : Int) 0) = some r := h
 clear h
 have H' := Aside0.mk H
 clear H
 go_enter Tryd.func70, Tryd.ntmps70
 go_wp2
 go_loopg [11] k (fun kq v11 w' => ∃ (x11_1 : Int), v11 = .int .i64 x11_1 ∧ Aside0 (slices_Compare_int_int.l0 kq l0 l1 l0 (l0.length : Int) x11_1 = some r) ∧ Aside0 (kq ≤ k) ∧ Drawn0 w w')
 case atStart => exact ⟨(0), (by first | rfl | (simp; done) | (simp [*]; done)), H', ⟨Nat.le_refl _⟩, by repeat (first | exact Drawn0.refl _ | apply Drawn0.step)⟩
 case round =>
  clear H'
  try clear c1
  try clear p2
  obtain ⟨x11_1, rfl, HA, HK1, ⟨m1, rfl⟩⟩ := hrel
  cases gk with
  | zero => exact absurd HA.out (by simp [slices_Compare_int_int.l0])
  | succ k1 =>
   have H := HA.out
   clear HA
   simp only [slices_Compare_int_int.l0] at H
   by_cases c3 : x11_1 < (l0.length : Int)
   ·
    rw [if_pos c3] at H
    have c3b0 : decide (x11_1 < (l0.length : Int)) = true := decide_eq_true c3
    clear c3
    by_cases c4 : 0 ≤ x11_1
    ·
     rw [if_pos c4] at H
     have c4b0 : decide (0 ≤ x11_1) = true := decide_eq_true c4
     clear c4
     by_cases c5 : x11_1 < (l0.length : Int)
     ·
      rw [if_pos c5] at H
      have c5b0 : decide (x11_1 < (l0.length : Int)) = true := decide_eq_true c5
      clear c5
      by_cases c6 : x11_1 ≥ (l1.length : Int)
      ·
       rw [if_pos c6] at H
       have c6b0 : decide ((l1.length : Int) ≤ x11_1) = true := decide_eq_true c6
       clear c6
       obtain rfl := Option.some.inj H
       have p392 : 0 ≤ (x11_1 : Int) := of_decide_eq_true (by first | (with_reducible assumption) | assumption)
       have q392 : x11_1 < (l0.length : Int) := of_decide_eq_true (by first | (with_reducible assumption) | assumption)
       obtain ⟨ad392, e392, hx392_0⟩ := Kd.at_int HR0.out x11_1 p392 q392
       cases e392
       replace p392 := eq_true p392
       replace q392 := eq_true q392
       go_wp2
       go_ret
       exact ⟨by first | rfl | (simp; done) | (simp [*]; done), by repeat (first | exact Drawn0.refl _ | apply Drawn0.step)⟩
      ·
       rw [if_neg c6] at H
       have c6b0 : decide ((l1.length : Int) ≤ x11_1) = false := decide_eq_false c6
       clear c6
       by_cases c7 : x11_1 < (l1.length : Int)
       ·
        rw [if_pos c7] at H
        have c7b0 : decide (x11_1 < (l1.length : Int)) = true := decide_eq_true c7
        clear c7
        replace H := Option.bind_eq_some_iff.mp H
        obtain ⟨t394, A80, H⟩ := H
        replace H : (if t394 = 0 then (slices_Compare_int_int.l0 k1 l0 l1 l0 (l0.length : Int) (wrap64 (x11_1 + 1))) else (some t394)) = some r := H
        have A8 := Aside0.mk A80
        clear A80
        by_cases c9 : t394 = 0
        ·
         rw [if_pos c9] at H
         have c9b0 : (t394 == 0) = true := beq_iff_eq.mpr c9
         have c9b1 : (t394 != 0) = false := bne_eq_false_iff_eq.mpr c9
         clear c9
         have H' := Aside0.mk H
         clear H
         have p392 : 0 ≤ (x11_1 : Int) := of_decide_eq_true (by first | (with_reducible assumption) | assumption)
         have q392 : x11_1 < (l0.length : Int) := of_decide_eq_true (by first | (with_reducible assumption) | assumption)
         obtain ⟨ad392, e392, hx392_0⟩ := Kd.at_int HR0.out x11_1 p392 q392
         cases e392
         replace p392 := eq_true p392
         replace q392 := eq_true q392
         have p393 : 0 ≤ (x11_1 : Int) := of_decide_eq_true (by first | (with_reducible assumption) | assumption)
         have q393 : x11_1 < (l1.length : Int) := of_decide_eq_true (by first | (with_reducible assumption) | assumption)
         obtain ⟨ad393, e393, hx393_0⟩ := Kd.at_int HR1.out x11_1 p393 q393
         cases e393
         replace p393 := eq_true p393
         replace q393 := eq_true q393
         go_wp2_with (first | ((with_reducible refine gate_callee (f := 98) rfl ?_); refine goesL_ (some 26) rfl rfl Tryd.func98 (by kernel_rfl) rfl #[.int .i64 (rd l0 x11_1), .int .i64 (rd l1 x11_1)] rfl (by (try simp only [List.map_toArray, List.map_cons, List.map_nil]); first | done | rfl | (simp only [List.length_drop, List.length_take]; rfl)) ?_; (with_reducible refine (cmp_Compare_int.calls (rd l0 x11_1) (rd l1 x11_1) t394 _ A8.out).mono ?_); rintro e w' ⟨rfl, ⟨nd, rfl⟩⟩; refine ⟨_, rfl, ?_⟩))
         go_roundg k1
         case measure => have := HK1.out; omega
         case rel => exact ⟨(wrap64 (x11_1 + 1)), (by first | rfl | (simp; done) | (simp [*]; done)), H', ⟨by have := HK1.out; omega⟩, by repeat (first | exact Drawn0.refl _ | apply Drawn0.step)⟩
        ·
         rw [if_neg c9] at H
         have c9b0 : (t394 == 0) = false := beq_eq_false_iff_ne.mpr c9
         have c9b1 : (t394 != 0) = true := bne_iff_ne.mpr c9
         obtain rfl := Option.some.inj H
         have p392 : 0 ≤ (x11_1 : Int) := of_decide_eq_true (by first | (with_reducible assumption) | assumption)
         have q392 : x11_1 < (l0.length : Int) := of_decide_eq_true (by first | (with_reducible assumption) | assumption)
         obtain ⟨ad392, e392, hx392_0⟩ := Kd.at_int HR0.out x11_1 p392 q392
         cases e392
         replace p392 := eq_true p392
         replace q392 := eq_true q392
         have p393 : 0 ≤ (x11_1 : Int) := of_decide_eq_true (by first | (with_reducible assumption) | assumption)
         have q393 : x11_1 < (l1.length : Int) := of_decide_eq_true (by first | (with_reducible assumption) | assumption)
         obtain ⟨ad393, e393, hx393_0⟩ := Kd.at_int HR1.out x11_1 p393 q393
         cases e393
         replace p393 := eq_true p393
         replace q393 := eq_true q393
         go_wp2_with (first | ((with_reducible refine gate_callee (f := 98) rfl ?_); refine goesL_ (some 26) rfl rfl Tryd.func98 (by kernel_rfl) rfl #[.int .i64 (rd l0 x11_1), .int .i64 (rd l1 x11_1)] rfl (by (try simp only [List.map_toArray, List.map_cons, List.map_nil]); first | done | rfl | (simp only [List.length_drop, List.length_take]; rfl)) ?_; (with_reducible refine (cmp_Compare_int.calls (rd l0 x11_1) (rd l1 x11_1) t394 _ A8.out).mono ?_); rintro e w' ⟨rfl, ⟨nd, rfl⟩⟩; refine ⟨_, rfl, ?_⟩))
         go_ret
         exact ⟨by first | rfl | (simp; done) | (simp [*]; done), by repeat (first | exact Drawn0.refl _ | apply Drawn0.step)⟩
       ·
        rw [if_neg c7] at H
        exact absurd H (by simp)
     ·
      rw [if_neg c5] at H
      exact absurd H (by simp)
    ·
     rw [if_neg c4] at H
     exact absurd H (by simp)
   ·
    rw [if_neg c3] at H
    have c3b0 : decide (x11_1 < (l0.length : Int)) = false := decide_eq_false c3
    clear c3
    by_cases c10 : (l0.length : Int) < (l1.length : Int)
    ·
     rw [if_pos c10] at H
     have c10b0 : decide ((l0.length : Int) < (l1.length : Int)) = true := decide_eq_true c10
     have c10b1 : decide (l0.length < l1.length) = true := decide_eq_true (Int.ofNat_lt.mp c10)
     clear c10
     obtain rfl := Option.some.inj H
     go_wp2
     go_ret
     exact ⟨by first | rfl | (simp; done) | (simp [*]; done), by repeat (first | exact Drawn0.refl _ | apply Drawn0.step)⟩
    ·
     rw [if_neg c10] at H
     have c10b0 : decide ((l0.length : Int) < (l1.length : Int)) = false := decide_eq_false c10
     have c10b1 : decide (l0.length < l1.length) = false := decide_eq_false (fun h => c10 (Int.ofNat_lt.mpr h))
     clear c10
     obtain rfl := Option.some.inj H
     go_wp2
     go_ret
     exact ⟨by first | rfl | (simp; done) | (simp [*]; done), by repeat (first | exact Drawn0.refl _ | apply Drawn0.step)⟩
def position_Compare.f (k : Nat) (l0 : List Int) (l1 : List Int) : Option (Int) := (slices_Compare_int_int.f k l0 l1).bind fun t395 => (some t395)
set_option maxHeartbeats 8000000 in
set_option maxRecDepth 100000 in
theorem position_Compare.calls (k : Nat) (A0 : Option Addr) (c0 : Nat) (l0 : List Int) (A1 : Option Addr) (c1 : Nat) (l1 : List Int) (r : Int) (w : World) (hr0 : Kd.C (Kd.int .i64) w A0 l0.length l0) (hc0 : l0.length ≤ c0) (hr1 : Kd.C (Kd.int .i64) w A1 l1.length l1) (hc1 : l1.length ≤ c1) (h : position_Compare.f k l0 l1 = some r) :
  Calls Tryd.prog 32 #[.slice A0 l0.length c0, .slice A1 l1.length c1] w fun e w' => e = .returned (.int .i64 r) ∧ Drawn0 w w' := by
 have HR0 := Aside0.mk hr0
 have HC0 := Aside0.mk hc0
 clear hr0 hc0
 have HR1 := Aside0.mk hr1
 have HC1 := Aside0.mk hc1
 clear hr1 hc1
 have H : ((slices_Compare_int_int.f k l0 l1).bind fun t395 => (some t395)) = some r := h
 clear h
 replace H := Option.bind_eq_some_iff.mp H
 obtain ⟨t395, A30, H⟩ := H
 replace H : (some t395) = some r := H
 have A3 := Aside0.mk A30
 clear A30
 obtain rfl := Option.some.inj H
 go_enter Tryd.func32, Tryd.ntmps32
 go_wp2_with (first | ((with_reducible refine gate_callee (f := 70) rfl ?_); refine goesL_ (some 7) rfl rfl Tryd.func70 (by kernel_rfl) rfl #[.slice A0 l0.length c0, .slice A1 l1.length c1] rfl (by (try simp only [List.map_toArray, List.map_cons, List.map_nil]); first | done | rfl | (simp only [List.length_drop, List.length_take]; rfl)) ?_; (with_reducible refine (slices_Compare_int_int.calls k _ _ l0 _ _ l1 t395 _ ?side1 ?side2 ?side3 ?side4 A3.out).mono ?_); (case side1 => repeat (first | exact HR0.out | (with_reducible refine Kd.C_alloc ?_ _) | (with_reducible refine Kd.C_drewN ?_ _) | (with_reducible refine Kd.C_drew ?_))); (case side2 => exact HC0.out); (case side3 => repeat (first | exact HR1.out | (with_reducible refine Kd.C_alloc ?_ _) | (with_reducible refine Kd.C_drewN ?_ _) | (with_reducible refine Kd.C_drew ?_))); (case side4 => exact HC1.out); rintro e w' ⟨rfl, ⟨nd, rfl⟩⟩; refine ⟨_, rfl, ?_⟩))
 go_ret
 exact ⟨by first | rfl | (simp; done) | (simp [*]; done), by repeat (first | exact Drawn0.refl _ | apply Drawn0.step)⟩
section pod
def bsl (k : Nat) (xs : List (List Int)) (pos : List Int) : Nat → Int → Int → Option Int
 | 0, _, _ => none
 | q + 1, i, j => if i < j then (position_Compare.f k (rd_L5 xs ((i + j) / 2)) pos).bind fun c => if c < 0 then bsl k xs pos q ((i + j) / 2 + 1) j else bsl k xs pos q i ((i + j) / 2) else some i
def bsf (k : Nat) (xs : List (List Int)) (pos : List Int) : Option (Int × Bool) := if xs.length < 17592186044416 then (bsl k xs pos k 0 (xs.length : Int)).bind fun i => if i < (xs.length : Int) then (position_Compare.f k (rd_L5 xs i) pos).bind fun c => some (i, c == 0) else some (i, false) else none
set_option maxHeartbeats 4000000 in
set_option maxRecDepth 100000 in
theorem bsf_calls (k : Nat) (A : Option Addr) (c : Nat) (xs : List (List Int)) (A1 : Option Addr) (c1 : Nat) (l1 : List Int) (w : World) (hC : Kd.C (Kd.slice 3 (Kd.int .i64)) w A xs.length xs) (hc : xs.length ≤ c) (hC1 : Kd.C (Kd.int .i64) w A1 l1.length l1) (hc1 : l1.length ≤ c1) (i : Int) (b : Bool) (h : bsf k xs l1 = some (i, b)) :
  Calls Tryd.prog 69 #[.slice A xs.length c, .slice A1 l1.length c1, .func (.func 32) #[] #[]] w fun e w' => e = .returned (.tuple #[.int .i64 i, .bool b]) ∧ Below w.heap.size w w' := by
 unfold bsf at h
 split at h
 case isFalse => simp at h
 rename_i hlen
 obtain ⟨i1, h1, h2⟩ := Option.bind_eq_some_iff.mp h
 have HR := Aside0.mk hC
 have HC := Aside0.mk hc
 have HR1 := Aside0.mk hC1
 have HC1 := Aside0.mk hc1
 have H1 := Aside0.mk h1
 have H2 := Aside0.mk h2
 have hm := hC.2.1
 clear hC hc hC1 hc1 h1 h2 h
 go_enter Tryd.func69, Tryd.ntmps69
 go_wp2_with fail
 go_loopg [9, 10] k (fun kq v9 v10 wr => ∃ (x y : Int), v9 = .int .i64 x ∧ v10 = .int .i64 y ∧ Aside0 (bsl k xs l1 kq x y = some i1) ∧ Aside0 (0 ≤ x ∧ x ≤ y ∧ y ≤ xs.length) ∧ Aside0 (Below w.heap.size w wr))
 case atStart => exact ⟨0, _, rfl, rfl, H1, ⟨by omega, by omega, by omega⟩, ⟨Below.refl _ _⟩⟩
 case round =>
  obtain ⟨x, y, rfl, rfl, HA, HL, HB⟩ := hrel
  clear H1
  cases gk with
  | zero => exact absurd HA.out (by simp [bsl])
  | succ k1 =>
   have H := HA.out
   clear HA
   simp only [bsl] at H
   have hl := HL.out
   by_cases hxy : x < y
   ·
    rw [if_pos hxy] at H
    obtain ⟨cv, hcv, H⟩ := Option.bind_eq_some_iff.mp H
    have hd1 : decide (x < y) = true := decide_eq_true hxy
    obtain ⟨ad, Ae, ce, e, hxe, hle, hie⟩ := at_L5 (Kd.C_below HR.out HB.out) ((x + y) / 2) (by omega) (by omega)
    subst e
    have p1 : decide ((x + y) / 2 < (xs.length : Int)) = true := decide_eq_true (by omega)
    have p2 : decide (0 ≤ (x + y) / 2) = true := decide_eq_true (by omega)
    go_wp2_with fail
    refine (position_Compare.calls k Ae ce _ A1 c1 l1 cv _ hie hle (Kd.C_below HR1.out HB.out) HC1.out hcv).mono ?_
    rintro e w2 ⟨rfl, hdr⟩
    have HB2 := Aside0.mk (below_step HB.out hdr.below)
    by_cases hcv0 : cv < 0
    ·
     have hd2 : decide (cv < 0) = true := decide_eq_true hcv0
     rw [if_pos hcv0] at H
     go_wp2
     go_roundg k1
     case measure => omega
     case rel => exact ⟨_, _, rfl, rfl, ⟨H⟩, ⟨by omega, by omega, by omega⟩, HB2⟩
    ·
     have hd2 : decide (cv < 0) = false := decide_eq_false hcv0
     rw [if_neg hcv0] at H
     go_wp2
     go_roundg k1
     case measure => omega
     case rel => exact ⟨_, _, rfl, rfl, ⟨H⟩, ⟨by omega, by omega, by omega⟩, HB2⟩
   ·
    rw [if_neg hxy] at H
    have hd1 : decide (x < y) = false := decide_eq_false hxy
    obtain rfl := Option.some.inj H
    by_cases hx : x < (xs.length : Int)
    ·
     have hd2 : decide (x < (xs.length : Int)) = true := decide_eq_true hx
     have h2 := H2.out
     rw [if_pos hx] at h2
     obtain ⟨cv, hcv, h2⟩ := Option.bind_eq_some_iff.mp h2
     simp only [Option.some.injEq, Prod.mk.injEq] at h2
     obtain ⟨rfl, rfl⟩ := h2
     obtain ⟨ad, Ae, ce, e, hxe, hle, hie⟩ := at_L5 (Kd.C_below HR.out HB.out) x (by omega) (by omega)
     subst e
     have p2 : decide (0 ≤ x) = true := decide_eq_true (by omega)
     go_wp2_with fail
     refine (position_Compare.calls k Ae ce _ A1 c1 l1 cv _ hie hle (Kd.C_below HR1.out HB.out) HC1.out hcv).mono ?_
     rintro e w2 ⟨rfl, hdr⟩
     have HB2 := Aside0.mk (below_step HB.out hdr.below)
     go_wp2
     go_ret2
     exact ⟨rfl, HB2.out⟩
    ·
     have hd2 : decide (x < (xs.length : Int)) = false := decide_eq_false hx
     have h2 := H2.out
     rw [if_neg hx] at h2
     simp at h2
     obtain ⟨rfl, rfl⟩ := h2
     go_wp2
     go_ret2
     exact ⟨rfl, HB.out⟩
end pod
def position_Index.f (k : Nat) (a0_0 : Int) (a0_1 : ByteArray) (a0_2 : Int) (l0_3 : List (S36)) (l1 : List Int) : Option (Int × Int) := (position_All.f k a0_0 a0_1 a0_2 l0_3).bind fun b => if b.2 = 0 then (bsf k b.1 l1).bind fun r => if r.2 = true then some (r.1, 0) else some (0, 2) else some (0, b.2)
theorem position_Index.calls (k : Nat) (a0_0 : Int) (a0_1 : ByteArray) (a0_2 : Int) (A0_3 : Option Addr) (c0_3 : Nat) (l0_3 : List (S36)) (A1 : Option Addr) (c1 : Nat) (l1 : List Int) (r1 : Int) (r2 : Int) (w : World) (hr0_3 : Kd.C k36 w A0_3 l0_3.length l0_3) (hc0_3 : l0_3.length ≤ c0_3) (hr1 : Kd.C (Kd.int .i64) w A1 l1.length l1) (hc1 : l1.length ≤ c1) (h : position_Index.f k a0_0 a0_1 a0_2 l0_3 l1 = some (r1, r2)) :
  Calls Tryd.prog 27 #[.agg #[.int .i64 a0_0, .string a0_1, .int .i64 a0_2, .slice A0_3 l0_3.length c0_3], .slice A1 l1.length c1] w fun e w' => e = .returned (.tuple #[.int .i64 r1, .int .i64 r2]) ∧ Below w.heap.size w w' := by
 have hu36 := Tryd.underlying36
 obtain ⟨⟨xs, e1⟩, hv, h⟩ := Option.bind_eq_some_iff.mp h
 have hm := hr0_3.2.1
 have HV := Aside0.mk hv
 have HR := Aside0.mk hr0_3
 have HC := Aside0.mk hc0_3
 have HR1 := Aside0.mk hr1
 have HC1 := Aside0.mk hc1
 have HB := Aside0.mk (below_alloc (Below.refl w.heap.size w) (.cells #[.int .i64 a0_0, .string a0_1, .int .i64 a0_2, .slice A0_3 l0_3.length c0_3] 36))
 clear hr0_3 hc0_3 hv hr1 hc1
 have HH := Aside0.mk h
 clear h
 go_enter Tryd.func27, Tryd.ntmps27
 go_wp2_with fail
 refine (position_All.calls k a0_0 a0_1 a0_2 A0_3 c0_3 l0_3 xs e1 _ (Kd.C_alloc HR.out _) HC.out HV.out).mono ?_
 rintro e w2 ⟨v0, rfl, hN, hb⟩
 obtain ⟨Ax, cx, rfl⟩ := Kd.N_slice hN
 have HN := Aside0.mk (Kd.N_reads' hN).2
 have HB2 := Aside0.mk (below_step HB.out hb)
 clear hb HB hN
 by_cases he : e1 = 0
 ·
  subst he
  have h := HH.out
  rw [if_pos rfl] at h
  obtain ⟨⟨i, b⟩, hb, h⟩ := Option.bind_eq_some_iff.mp h
  have HBS := Aside0.mk hb
  clear hb
  go_wp2_with fail
  refine (bsf_calls k Ax cx xs A1 c1 l1 w2 HN.out.2 HN.out.1 (Kd.C_below HR1.out HB2.out) HC1.out i b HBS.out).mono ?_
  rintro e w3 ⟨rfl, hb3⟩
  have HB3 := Aside0.mk (below_step HB2.out hb3)
  clear hb3
  cases b with
  | false =>
   simp at h
   obtain ⟨rfl, rfl⟩ := h
   go_wp2
   go_ret2
   exact ⟨rfl, HB3.out⟩
  | true =>
   simp at h
   obtain ⟨rfl, rfl⟩ := h
   go_wp2
   go_ret2
   exact ⟨rfl, HB3.out⟩
 ·
  have h := HH.out
  rw [if_neg he] at h
  simp at h
  obtain ⟨rfl, rfl⟩ := h
  have he2 : (e1 == 0) = false := beq_eq_false_iff_ne.mpr he
  have he3 : (e1 != 0) = true := bne_iff_ne.mpr he
  go_wp2
  go_ret2
  exact ⟨rfl, HB2.out⟩
end Go.Proofs.YtagkhoeidjlahaaDoor.G
