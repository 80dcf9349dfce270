-- Written by pack2.py, a program of this session: this session's texts and those that the kit's printer wrote for this claim, pruned to what the claims use.
import Derived.Test.YtagkhoeidjlahaaDoorCSb2
import Derived.Test.YtagkhoeidjlahaaDoorCSb5
import Derived.Test.YtagkhoeidjlahaaDoorCSb4
import Derived.Test.YtagkhoeidjlahaaDoorCSb3
namespace Go.Proofs.YtagkhoeidjlahaaDoor.G
open Go.RowKit Go.Proofs.YtagkhoeidjlahaaDoorW.PrintWords Go.Proofs.YtagkhoeidjlahaaDoorW.PrintLast Go.Proofs.YtagkhoeidjlahaaDoorW.PrintMore
attribute [local go_sem] max2_int min2_int max_two min_two max_three min_three max_four min_four
set_option linter.unusedVariables false
set_option linter.unusedSimpArgs false
def node_Number.f (a0 : ByteArray) : Option (Bool) := if (a0.size : Int) > 20 then (some false) else ((strings_Cut.f a0 (⟨#[46]⟩ : ByteArray)).bind fun bt122 => ((node_digits.f bt122.1).bind fun t125 => (if t125 = true then (if bt122.2.2 = true then ((node_digits.f bt122.2.1).bind fun t126 => (some t126)) else (some true)) else (some false))))
set_option maxHeartbeats 8000000 in
set_option maxRecDepth 100000 in
theorem node_Number.calls (a0 : ByteArray) (r : Bool) (w : World) (h : node_Number.f a0 = some r) :
  Calls Tryd.prog 115 #[.string a0] w fun e w' => e = .returned (.bool r) ∧ Below w.heap.size w w' := by
 have HB := Aside0.mk (Below.refl w.heap.size w)
 have H : (if (a0.size : Int) > 20 then (some false) else ((strings_Cut.f a0 (⟨#[46]⟩ : ByteArray)).bind fun bt122 => ((node_digits.f bt122.1).bind fun t125 => (if t125 = true then (if bt122.2.2 = true then ((node_digits.f bt122.2.1).bind fun t126 => (some t126)) else (some true)) else (some false))))) = some r := h
 clear h
 by_cases c2 : (a0.size : Int) > 20
 ·
  rw [if_pos c2] at H
  have c2b0 : decide (20 < (a0.size : Int)) = true := decide_eq_true c2
  have c2b1 : decide (20 < a0.size) = true := decide_eq_true (by omega)
  clear c2
  obtain rfl := Option.some.inj H
  go_enter Tryd.func115, Tryd.ntmps115
  go_wp2
  go_ret
  exact ⟨by first | rfl | (simp [errW_none, errW_some] <;> rfl) | (simp [*, errW_none, errW_some] <;> rfl), by repeat (first | (with_reducible first | exact HB.out | apply below_alloc | apply pw_below_drewN | apply below_drew1) | exact HB.out)⟩
 ·
  rw [if_neg c2] at H
  have c2b0 : decide (20 < (a0.size : Int)) = false := decide_eq_false c2
  have c2b1 : decide (20 < a0.size) = false := decide_eq_false (by omega)
  clear c2
  replace H := Option.bind_eq_some_iff.mp H
  obtain ⟨⟨t122, t123, t124⟩, A30, H⟩ := H
  replace H : ((node_digits.f t122).bind fun t125 => (if t125 = true then (if t124 = true then ((node_digits.f t123).bind fun t126 => (some t126)) else (some true)) else (some false))) = some r := H
  have A3 := Aside0.mk A30
  clear A30
  replace H := Option.bind_eq_some_iff.mp H
  obtain ⟨t125, A40, H⟩ := H
  replace H : (if t125 = true then (if t124 = true then ((node_digits.f t123).bind fun t126 => (some t126)) else (some true)) else (some false)) = some r := H
  have A4 := Aside0.mk A40
  clear A40
  by_cases c5 : t125 = true
  ·
   subst c5
   have H1 : (if t124 = true then ((node_digits.f t123).bind fun t126 => (some t126)) else (some true)) = some r := by rw [if_pos rfl] at H; exact H
   clear H
   have H := H1
   clear H1
   by_cases c6 : t124 = true
   ·
    subst c6
    have H1 : ((node_digits.f t123).bind fun t126 => (some t126)) = some r := by rw [if_pos rfl] at H; exact H
    clear H
    have H := H1
    clear H1
    replace H := Option.bind_eq_some_iff.mp H
    obtain ⟨t126, A70, H⟩ := H
    replace H : (some t126) = some r := H
    have A7 := Aside0.mk A70
    clear A70
    obtain rfl := Option.some.inj H
    go_enter Tryd.func115, Tryd.ntmps115
    go_wp2_with (first | ((with_reducible refine gate_callee (f := 133) rfl ?_); refine goesL_ (some 11) rfl rfl Tryd.func133 (by kernel_rfl) rfl #[.string a0, .string (⟨#[46]⟩ : ByteArray)] rfl (by (try simp only [List.map_toArray, List.map_cons, List.map_nil]); first | done | rfl | (simp only [List.length_drop, List.length_take]; rfl)) ?_; (with_reducible refine (strings_Cut.calls a0 (⟨#[46]⟩ : ByteArray) t122 t123 true _ A3.out).mono ?_); rintro e w' ⟨rfl, ⟨nd, rfl⟩⟩; refine ⟨_, rfl, ?_⟩) | ((with_reducible refine gate_callee (f := 134) rfl ?_); refine goesL_ (some 16) rfl rfl Tryd.func134 (by kernel_rfl) rfl #[.string t122] rfl (by (try simp only [List.map_toArray, List.map_cons, List.map_nil]); first | done | rfl | (simp only [List.length_drop, List.length_take]; rfl)) ?_; (with_reducible refine (node_digits.calls t122 true _ A4.out).mono ?_); rintro e w8 ⟨rfl, hb⟩; refine ⟨_, rfl, ?_⟩; have n0_ := Aside0.mk (below_step (by repeat (first | (with_reducible first | exact HB.out | apply below_alloc | apply pw_below_drewN | apply below_drew1) | exact HB.out)) hb); clear HB; have HB := n0_; clear n0_; (try clear hb); (try clear hb2); (try clear hk); (try clear hi)) | (go_at_call 134; (with_reducible refine (node_digits.calls t123 t126 _ A7.out).mono ?_); rintro e w9 ⟨rfl, hb⟩; have n0_ := Aside0.mk (below_step (by repeat (first | (with_reducible first | exact HB.out | apply below_alloc | apply pw_below_drewN | apply below_drew1) | exact HB.out)) hb); clear HB; have HB := n0_; clear n0_; (try clear hb); (try clear hb2); (try clear hk); (try clear hi)))
    go_ret
    exact ⟨by first | rfl | (simp [errW_none, errW_some] <;> rfl) | (simp [*, errW_none, errW_some] <;> rfl), by repeat (first | (with_reducible first | exact HB.out | apply below_alloc | apply pw_below_drewN | apply below_drew1) | exact HB.out)⟩
   ·
    replace c6 := Bool.eq_false_iff.mpr c6
    subst c6
    have H1 : (some true) = some r := by rw [if_neg (show ¬ (false = true) by decide)] at H; exact H
    clear H
    have H := H1
    clear H1
    obtain rfl := Option.some.inj H
    go_enter Tryd.func115, Tryd.ntmps115
    go_wp2_with (first | ((with_reducible refine gate_callee (f := 133) rfl ?_); refine goesL_ (some 11) rfl rfl Tryd.func133 (by kernel_rfl) rfl #[.string a0, .string (⟨#[46]⟩ : ByteArray)] rfl (by (try simp only [List.map_toArray, List.map_cons, List.map_nil]); first | done | rfl | (simp only [List.length_drop, List.length_take]; rfl)) ?_; (with_reducible refine (strings_Cut.calls a0 (⟨#[46]⟩ : ByteArray) t122 t123 false _ A3.out).mono ?_); rintro e w' ⟨rfl, ⟨nd, rfl⟩⟩; refine ⟨_, rfl, ?_⟩) | ((with_reducible refine gate_callee (f := 134) rfl ?_); refine goesL_ (some 16) rfl rfl Tryd.func134 (by kernel_rfl) rfl #[.string t122] rfl (by (try simp only [List.map_toArray, List.map_cons, List.map_nil]); first | done | rfl | (simp only [List.length_drop, List.length_take]; rfl)) ?_; (with_reducible refine (node_digits.calls t122 true _ A4.out).mono ?_); rintro e w10 ⟨rfl, hb⟩; refine ⟨_, rfl, ?_⟩; have n0_ := Aside0.mk (below_step (by repeat (first | (with_reducible first | exact HB.out | apply below_alloc | apply pw_below_drewN | apply below_drew1) | exact HB.out)) hb); clear HB; have HB := n0_; clear n0_; (try clear hb); (try clear hb2); (try clear hk); (try clear hi)))
    go_ret
    exact ⟨by first | rfl | (simp [errW_none, errW_some] <;> rfl) | (simp [*, errW_none, errW_some] <;> rfl), by repeat (first | (with_reducible first | exact HB.out | apply below_alloc | apply pw_below_drewN | apply below_drew1) | exact HB.out)⟩
  ·
   replace c5 := Bool.eq_false_iff.mpr c5
   subst c5
   have H1 : (some false) = some r := by rw [if_neg (show ¬ (false = true) by decide)] at H; exact H
   clear H
   have H := H1
   clear H1
   obtain rfl := Option.some.inj H
   go_enter Tryd.func115, Tryd.ntmps115
   go_wp2_with (first | ((with_reducible refine gate_callee (f := 133) rfl ?_); refine goesL_ (some 11) rfl rfl Tryd.func133 (by kernel_rfl) rfl #[.string a0, .string (⟨#[46]⟩ : ByteArray)] rfl (by (try simp only [List.map_toArray, List.map_cons, List.map_nil]); first | done | rfl | (simp only [List.length_drop, List.length_take]; rfl)) ?_; (with_reducible refine (strings_Cut.calls a0 (⟨#[46]⟩ : ByteArray) t122 t123 t124 _ A3.out).mono ?_); rintro e w' ⟨rfl, ⟨nd, rfl⟩⟩; refine ⟨_, rfl, ?_⟩) | ((with_reducible refine gate_callee (f := 134) rfl ?_); refine goesL_ (some 16) rfl rfl Tryd.func134 (by kernel_rfl) rfl #[.string t122] rfl (by (try simp only [List.map_toArray, List.map_cons, List.map_nil]); first | done | rfl | (simp only [List.length_drop, List.length_take]; rfl)) ?_; (with_reducible refine (node_digits.calls t122 false _ A4.out).mono ?_); rintro e w11 ⟨rfl, hb⟩; refine ⟨_, rfl, ?_⟩; have n0_ := Aside0.mk (below_step (by repeat (first | (with_reducible first | exact HB.out | apply below_alloc | apply pw_below_drewN | apply below_drew1) | exact HB.out)) hb); clear HB; have HB := n0_; clear n0_; (try clear hb); (try clear hb2); (try clear hk); (try clear hi)))
   go_ret
   exact ⟨by first | rfl | (simp [errW_none, errW_some] <;> rfl) | (simp [*, errW_none, errW_some] <;> rfl), by repeat (first | (with_reducible first | exact HB.out | apply below_alloc | apply pw_below_drewN | apply below_drew1) | exact HB.out)⟩
end Go.Proofs.YtagkhoeidjlahaaDoor.G
namespace Go.Proofs.YtagkhoeidjlahaaDoor.G
open Go.RowKit Go.Proofs.YtagkhoeidjlahaaDoorW.PrintWords Go.Proofs.YtagkhoeidjlahaaDoorW.PrintLast Go.Proofs.YtagkhoeidjlahaaDoorW.PrintMore
attribute [local go_sem] max2_int min2_int max_two min_two max_three min_three max_four min_four
set_option linter.unusedVariables false
set_option linter.unusedSimpArgs false
def node_printable.l0 : Nat → ByteArray → Int → Int → Option (Bool)
 | 0, _, _, _ => none
 | k + 1, x0, x5, x6 => if x6 < x5 then (if 0 ≤ x6 then (if x6 < (x0.size : Int) then (if (bt x0 x6) < 32 then (some false) else (if (bt x0 x6) > 126 then (some false) else (node_printable.l0 k x0 x5 (wrap64 (x6 + 1))))) else (none)) else (none)) else (some (decide ((x0.size : Int) ≤ 200)))
def node_printable.f (k : Nat) (a0 : ByteArray) : Option (Bool) := node_printable.l0 k a0 (a0.size : Int) 0
set_option maxHeartbeats 8000000 in
set_option maxRecDepth 100000 in
theorem node_printable.calls (k : Nat) (a0 : ByteArray) (r : Bool) (w : World) (h : node_printable.f k a0 = some r) :
  Calls Tryd.prog 116 #[.string a0] w fun e w' => e = .returned (.bool r) ∧ Drawn0 w w' := by
 have H : (node_printable.l0 k a0 (a0.size : Int) 0) = some r := h
 clear h
 have H' := Aside0.mk H
 clear H
 go_enter Tryd.func116, Tryd.ntmps116
 go_wp2
 go_loopg [6] k (fun kq v6 w' => ∃ (x6_1 : Int), v6 = .int .i64 x6_1 ∧ Aside0 (node_printable.l0 kq a0 (a0.size : Int) x6_1 = some r) ∧ Aside0 (kq ≤ k) ∧ Drawn0 w w')
 case atStart => exact ⟨(0), (by first | rfl | (simp; done) | (simp [*]; done)), H', ⟨Nat.le_refl _⟩, by repeat (first | exact Drawn0.refl _ | apply Drawn0.step)⟩
 case round =>
  clear H'
  try clear c1
  obtain ⟨x6_1, rfl, HA, HK1, ⟨m1, rfl⟩⟩ := hrel
  cases gk with
  | zero => exact absurd HA.out (by simp [node_printable.l0])
  | succ k1 =>
   have H := HA.out
   clear HA
   simp only [node_printable.l0] at H
   by_cases c2 : x6_1 < (a0.size : Int)
   ·
    rw [if_pos c2] at H
    have c2b0 : decide (x6_1 < (a0.size : Int)) = true := decide_eq_true c2
    clear c2
    by_cases c3 : 0 ≤ x6_1
    ·
     rw [if_pos c3] at H
     have c3b0 : decide (0 ≤ x6_1) = true := decide_eq_true c3
     clear c3
     by_cases c4 : x6_1 < (a0.size : Int)
     ·
      rw [if_pos c4] at H
      have c4b0 : decide (x6_1 < (a0.size : Int)) = true := decide_eq_true c4
      clear c4
      by_cases c6 : (bt a0 x6_1) < 32
      ·
       rw [if_pos c6] at H
       have c6b0 : decide ((bt a0 x6_1) < 32) = true := decide_eq_true c6
       clear c6
       obtain rfl := Option.some.inj H
       have p5 : 0 ≤ (x6_1 : Int) := of_decide_eq_true (by first | (with_reducible assumption) | assumption)
       have q5 : x6_1 < (a0.size : Int) := of_decide_eq_true (by first | (with_reducible assumption) | assumption)
       have hx5 := bt_at a0 x6_1
       replace p5 := eq_true p5
       replace q5 := eq_true q5
       go_wp2
       go_ret
       exact ⟨by first | rfl | (simp; done) | (simp [*]; done), by repeat (first | exact Drawn0.refl _ | apply Drawn0.step)⟩
      ·
       rw [if_neg c6] at H
       have c6b0 : decide ((bt a0 x6_1) < 32) = false := decide_eq_false c6
       clear c6
       by_cases c8 : (bt a0 x6_1) > 126
       ·
        rw [if_pos c8] at H
        have c8b0 : decide (126 < (bt a0 x6_1)) = true := decide_eq_true c8
        clear c8
        obtain rfl := Option.some.inj H
        have p5 : 0 ≤ (x6_1 : Int) := of_decide_eq_true (by first | (with_reducible assumption) | assumption)
        have q5 : x6_1 < (a0.size : Int) := of_decide_eq_true (by first | (with_reducible assumption) | assumption)
        have hx5 := bt_at a0 x6_1
        replace p5 := eq_true p5
        replace q5 := eq_true q5
        have p7 : 0 ≤ (x6_1 : Int) := of_decide_eq_true (by first | (with_reducible assumption) | assumption)
        have q7 : x6_1 < (a0.size : Int) := of_decide_eq_true (by first | (with_reducible assumption) | assumption)
        have hx7 := bt_at a0 x6_1
        replace p7 := eq_true p7
        replace q7 := eq_true q7
        go_wp2
        go_ret
        exact ⟨by first | rfl | (simp; done) | (simp [*]; done), by repeat (first | exact Drawn0.refl _ | apply Drawn0.step)⟩
       ·
        rw [if_neg c8] at H
        have c8b0 : decide (126 < (bt a0 x6_1)) = false := decide_eq_false c8
        clear c8
        have H' := Aside0.mk H
        clear H
        have p5 : 0 ≤ (x6_1 : Int) := of_decide_eq_true (by first | (with_reducible assumption) | assumption)
        have q5 : x6_1 < (a0.size : Int) := of_decide_eq_true (by first | (with_reducible assumption) | assumption)
        have hx5 := bt_at a0 x6_1
        replace p5 := eq_true p5
        replace q5 := eq_true q5
        have p7 : 0 ≤ (x6_1 : Int) := of_decide_eq_true (by first | (with_reducible assumption) | assumption)
        have q7 : x6_1 < (a0.size : Int) := of_decide_eq_true (by first | (with_reducible assumption) | assumption)
        have hx7 := bt_at a0 x6_1
        replace p7 := eq_true p7
        replace q7 := eq_true q7
        go_wp2
        go_roundg k1
        case measure => have := HK1.out; omega
        case rel => exact ⟨(wrap64 (x6_1 + 1)), (by first | rfl | (simp; done) | (simp [*]; done)), H', ⟨by have := HK1.out; omega⟩, by repeat (first | exact Drawn0.refl _ | apply Drawn0.step)⟩
     ·
      rw [if_neg c4] at H
      exact absurd H (by simp)
    ·
     rw [if_neg c3] at H
     exact absurd H (by simp)
   ·
    rw [if_neg c2] at H
    have c2b0 : decide (x6_1 < (a0.size : Int)) = false := decide_eq_false c2
    clear c2
    obtain rfl := Option.some.inj H
    go_wp2
    go_ret
    exact ⟨by first | rfl | (simp; done) | (simp [*]; done), by repeat (first | exact Drawn0.refl _ | apply Drawn0.step)⟩
end Go.Proofs.YtagkhoeidjlahaaDoor.G
namespace Go.Proofs.YtagkhoeidjlahaaDoor.G
open Go.RowKit Go.Proofs.YtagkhoeidjlahaaDoorW.PrintWords Go.Proofs.YtagkhoeidjlahaaDoorW.PrintLast Go.Proofs.YtagkhoeidjlahaaDoorW.PrintMore
attribute [local go_sem] max2_int min2_int max_two min_two max_three min_three max_four min_four
set_option linter.unusedVariables false
set_option linter.unusedSimpArgs false
def node_fence.f (a0 : ByteArray) : Option (Bool) := if (a0.size : Int) = 2 then (if 0 ≤ 1 then (if 1 ≤ (a0.size : Int) then ((strings_Contains.f (⟨#[40, 41, 91, 93, 123, 125, 60, 62, 47, 124, 46]⟩ : ByteArray) (a0.extract 0 1)).bind fun t127 => (if t127 = true then ((strings_Contains.f (⟨#[40, 41, 91, 93, 123, 125, 60, 62, 47, 124, 46]⟩ : ByteArray) (a0.extract 1 a0.size)).bind fun t128 => (some t128)) else (some false))) else (none)) else (none)) else (some false)
set_option maxHeartbeats 8000000 in
set_option maxRecDepth 100000 in
theorem node_fence.calls (a0 : ByteArray) (r : Bool) (w : World) (h : node_fence.f a0 = some r) :
  Calls Tryd.prog 118 #[.string a0] w fun e w' => e = .returned (.bool r) ∧ Drawn0 w w' := by
 have H : (if (a0.size : Int) = 2 then (if 0 ≤ 1 then (if 1 ≤ (a0.size : Int) then ((strings_Contains.f (⟨#[40, 41, 91, 93, 123, 125, 60, 62, 47, 124, 46]⟩ : ByteArray) (a0.extract 0 1)).bind fun t127 => (if t127 = true then ((strings_Contains.f (⟨#[40, 41, 91, 93, 123, 125, 60, 62, 47, 124, 46]⟩ : ByteArray) (a0.extract 1 a0.size)).bind fun t128 => (some t128)) else (some false))) else (none)) else (none)) else (some false)) = some r := h
 clear h
 by_cases c2 : (a0.size : Int) = 2
 ·
  rw [if_pos c2] at H
  have c2b0 : ((a0.size : Int) == 2) = true := beq_iff_eq.mpr c2
  have c2b1 : ((a0.size : Int) != 2) = false := bne_eq_false_iff_eq.mpr c2
  clear c2
  by_cases c3 : 0 ≤ 1
  ·
   rw [if_pos c3] at H
   have c3b0 := eq_true c3
   have c3b1 : decide (0 ≤ 1) = true := decide_eq_true c3
   clear c3
   by_cases c4 : 1 ≤ (a0.size : Int)
   ·
    rw [if_pos c4] at H
    have c4b0 := eq_true c4
    have c4b1 : decide (1 ≤ (a0.size : Int)) = true := decide_eq_true c4
    clear c4
    replace H := Option.bind_eq_some_iff.mp H
    obtain ⟨t127, A50, H⟩ := H
    replace H : (if t127 = true then ((strings_Contains.f (⟨#[40, 41, 91, 93, 123, 125, 60, 62, 47, 124, 46]⟩ : ByteArray) (a0.extract 1 a0.size)).bind fun t128 => (some t128)) else (some false)) = some r := H
    have A5 := Aside0.mk A50
    clear A50
    by_cases c6 : t127 = true
    ·
     subst c6
     have H1 : ((strings_Contains.f (⟨#[40, 41, 91, 93, 123, 125, 60, 62, 47, 124, 46]⟩ : ByteArray) (a0.extract 1 a0.size)).bind fun t128 => (some t128)) = some r := by rw [if_pos rfl] at H; exact H
     clear H
     have H := H1
     clear H1
     have c7b0 := eq_true (of_decide_eq_true (by first | (with_reducible assumption) | assumption) : 1 ≤ (a0.size : Int))
     replace H := Option.bind_eq_some_iff.mp H
     obtain ⟨t128, A80, H⟩ := H
     replace H : (some t128) = some r := H
     have A8 := Aside0.mk A80
     clear A80
     obtain rfl := Option.some.inj H
     go_enter Tryd.func118, Tryd.ntmps118
     go_wp2_with (first | (go_at_call 131; (with_reducible refine (strings_Contains.calls (⟨#[40, 41, 91, 93, 123, 125, 60, 62, 47, 124, 46]⟩ : ByteArray) (a0.extract 0 1) true _ A5.out).mono ?_); rintro e w' ⟨rfl, ⟨nd, rfl⟩⟩) | (go_at_call 131; (with_reducible refine (strings_Contains.calls (⟨#[40, 41, 91, 93, 123, 125, 60, 62, 47, 124, 46]⟩ : ByteArray) (a0.extract 1 a0.size) t128 _ A8.out).mono ?_); rintro e w' ⟨rfl, ⟨nd, rfl⟩⟩))
     go_ret
     exact ⟨by first | rfl | (simp; done) | (simp [*]; done), by repeat (first | exact Drawn0.refl _ | apply Drawn0.step)⟩
    ·
     replace c6 := Bool.eq_false_iff.mpr c6
     subst c6
     have H1 : (some false) = some r := by rw [if_neg (show ¬ (false = true) by decide)] at H; exact H
     clear H
     have H := H1
     clear H1
     obtain rfl := Option.some.inj H
     go_enter Tryd.func118, Tryd.ntmps118
     go_wp2_with (first | (go_at_call 131; (with_reducible refine (strings_Contains.calls (⟨#[40, 41, 91, 93, 123, 125, 60, 62, 47, 124, 46]⟩ : ByteArray) (a0.extract 0 1) false _ A5.out).mono ?_); rintro e w' ⟨rfl, ⟨nd, rfl⟩⟩))
     go_ret
     exact ⟨by first | rfl | (simp; done) | (simp [*]; done), by repeat (first | exact Drawn0.refl _ | apply Drawn0.step)⟩
   ·
    rw [if_neg c4] at H
    exact absurd H (by simp)
  ·
   rw [if_neg c3] at H
   exact absurd H (by simp)
 ·
  rw [if_neg c2] at H
  have c2b0 : ((a0.size : Int) == 2) = false := beq_eq_false_iff_ne.mpr c2
  have c2b1 : ((a0.size : Int) != 2) = true := bne_iff_ne.mpr c2
  obtain rfl := Option.some.inj H
  go_enter Tryd.func118, Tryd.ntmps118
  go_wp2
  go_ret
  exact ⟨by first | rfl | (simp; done) | (simp [*]; done), by repeat (first | exact Drawn0.refl _ | apply Drawn0.step)⟩
end Go.Proofs.YtagkhoeidjlahaaDoor.G
namespace Go.Proofs.YtagkhoeidjlahaaDoor.G
open Go.RowKit Go.Proofs.YtagkhoeidjlahaaDoorW.PrintWords Go.Proofs.YtagkhoeidjlahaaDoorW.PrintLast Go.Proofs.YtagkhoeidjlahaaDoorW.PrintMore
attribute [local go_sem] max2_int min2_int max_two min_two max_three min_three max_four min_four
set_option linter.unusedVariables false
set_option linter.unusedSimpArgs false
set_option maxHeartbeats 4000000 in
set_option maxRecDepth 100000 in
theorem shapeOut (kd : Int) (s : ByteArray) (cols : Int) (A : Option Addr) (n c g : Nat) (w : World) (hk : kd < 1 ∨ 12 < kd) :
  Calls Tryd.prog 119 #[.pointer (some ⟨g, 0, none⟩), .agg #[.int .i64 kd, .string s, .int .i64 cols, .slice A n c]] w fun e w' => e = .returned (.bool false) ∧ Below w.heap.size w w' := by
 have hu36 := Tryd.underlying36
 rcases hk with h | h
 ·
  have h' : decide (kd < 1) = true := decide_eq_true h
  go_enter Tryd.func119, Tryd.ntmps119
  go_wp2
  go_ret
  exact ⟨rfl, below_alloc (Below.refl _ _) _⟩
 ·
  have h' : decide (kd < 1) = false := decide_eq_false (by omega)
  have h'' : decide (12 < kd) = true := decide_eq_true h
  go_enter Tryd.func119, Tryd.ntmps119
  go_wp2
  go_ret
  exact ⟨rfl, below_alloc (Below.refl _ _) _⟩
set_option maxHeartbeats 4000000 in
set_option maxRecDepth 100000 in
theorem shape1 (s : ByteArray) (cols : Int) (A : Option Addr) (n c g gf : Nat) (left : Int) (w : World) (hn : n ≤ 9223372036854775807)
  (hg : w.heap[g]? = some (.cells #[.slice (some ⟨gf, 0, none⟩) 13 13, .int .i64 left] 103 (0, 0))) (hf : w.heap[gf]? = some (.cells formCells 113 (0, 0))) :
  Calls Tryd.prog 119 #[.pointer (some ⟨g, 0, none⟩), .agg #[.int .i64 1, .string s, .int .i64 cols, .slice A n c]] w fun e w' => e = .returned (.bool (shR s cols n)) ∧ Below w.heap.size w w' := by
 have hc := blk_cell hg 0
 have hfc0 := blk_cell hf 3
 have hfc1 := blk_cell hf 4
 have hfc2 := blk_cell hf 5
 have hlg := blk_lt hg
 have hlf := blk_lt hf
 have hu113 := Tryd.underlying113
 have hu36 := Tryd.underlying36
 have hu103 := Tryd.underlying103
 simp [formCells, str, fnv] at hc hfc0 hfc1 hfc2
 clear hg hf
 by_cases h0 : s.toList.isEmpty = true
 ·
  by_cases h1 : cols = 0
  ·
   subst h1
   by_cases h2 : n ≤ 200
   ·
    have h2b : decide ((n : Int) ≤ 200) = true := decide_eq_true (by omega)
    have HF : Aside0 (shR s 0 n = true) := ⟨by unfold shR; simp [h0]; omega⟩
    go_enter Tryd.func119, Tryd.ntmps119
    go_wp2
    go_region
    go_wp2
    go_ret
    exact ⟨by rw [HF.out]; rfl, below_drew1 (below_alloc (below_alloc (Below.refl _ _) _) _)⟩
   ·
    have h2b : decide ((n : Int) ≤ 200) = false := decide_eq_false (by omega)
    have HF : Aside0 (shR s 0 n = false) := ⟨by unfold shR; simp [h0]; omega⟩
    go_enter Tryd.func119, Tryd.ntmps119
    go_wp2
    go_region
    go_wp2
    go_ret
    exact ⟨by rw [HF.out]; rfl, below_drew1 (below_alloc (below_alloc (Below.refl _ _) _) _)⟩
  ·
   have h1b : (cols == 0) = false := by simpa using h1
   have HF : Aside0 (shR s cols n = false) := ⟨by unfold shR; simp [h1]⟩
   go_enter Tryd.func119, Tryd.ntmps119
   go_wp2
   go_region
   go_wp2
   go_ret
   exact ⟨by rw [HF.out]; rfl, below_drew1 (below_alloc (below_alloc (Below.refl _ _) _) _)⟩
 ·
  replace h0 : s.toList.isEmpty = false := by simpa using h0
  have HF : Aside0 (shR s cols n = false) := ⟨by unfold shR; simp [h0]⟩
  go_enter Tryd.func119, Tryd.ntmps119
  go_wp2
  go_region
  go_wp2
  go_ret
  exact ⟨by rw [HF.out]; rfl, below_drew1 (below_alloc (below_alloc (Below.refl _ _) _) _)⟩
set_option maxHeartbeats 4000000 in
set_option maxRecDepth 100000 in
theorem shape12 (s : ByteArray) (cols : Int) (A : Option Addr) (n c g gf : Nat) (left : Int) (w : World) (hn : n ≤ 9223372036854775807)
  (hg : w.heap[g]? = some (.cells #[.slice (some ⟨gf, 0, none⟩) 13 13, .int .i64 left] 103 (0, 0))) (hf : w.heap[gf]? = some (.cells formCells 113 (0, 0))) :
  Calls Tryd.prog 119 #[.pointer (some ⟨g, 0, none⟩), .agg #[.int .i64 12, .string s, .int .i64 cols, .slice A n c]] w fun e w' => e = .returned (.bool (shM s cols n)) ∧ Below w.heap.size w w' := by
 have hc := blk_cell hg 0
 have hfc0 := blk_cell hf 36
 have hfc1 := blk_cell hf 37
 have hfc2 := blk_cell hf 38
 have hlg := blk_lt hg
 have hlf := blk_lt hf
 have hu113 := Tryd.underlying113
 have hu36 := Tryd.underlying36
 have hu103 := Tryd.underlying103
 simp [formCells, str, fnv] at hc hfc0 hfc1 hfc2
 clear hg hf
 have END : ∀ {W : World}, Below w.heap.size w ((w.alloc (.cells #[.int .i64 12, .string s, .int .i64 cols, .slice A n c] 36)).alloc (.cells #[.string ⟨#[109, 97, 116, 114, 105, 120]⟩, .func (.func 113) #[] #[], .int .i64 (-1)] 113)).drew := fun {_} => below_drew1 (below_alloc (below_alloc (Below.refl _ _) _) _)
 by_cases h0 : s.toList.isEmpty = true
 ·
  by_cases h1 : 1 ≤ cols
  ·
   by_cases h2 : cols ≤ 16
   ·
    by_cases h3 : 1 ≤ n
    ·
     by_cases h4 : n ≤ 256
     ·
      by_cases h5 : (n : Int) % cols = 0
      ·
       have h5b : ((n : Int) % cols == 0) = true := by simpa using h5
       have H5 := Aside0.mk h5
       clear h5
       have HF : Aside0 (shM s cols n = true) := ⟨by unfold shM; simp [h0, h1, h2, h3, h4, h5b]⟩
       go_enter Tryd.func119, Tryd.ntmps119
       go_wp2
       go_region
       go_wp2
       go_ret
       exact ⟨by rw [HF.out]; rfl, END (W := w)⟩
      ·
       have h5b : ((n : Int) % cols == 0) = false := by simpa using h5
       clear h5
       have HF : Aside0 (shM s cols n = false) := ⟨by unfold shM; simp [h5b]⟩
       go_enter Tryd.func119, Tryd.ntmps119
       go_wp2
       go_region
       go_wp2
       go_ret
       exact ⟨by rw [HF.out]; rfl, END (W := w)⟩
     ·
      have HF : Aside0 (shM s cols n = false) := ⟨by unfold shM; rw [decide_eq_false h4]; simp⟩
      go_enter Tryd.func119, Tryd.ntmps119
      go_wp2
      go_region
      go_wp2
      go_ret
      exact ⟨by rw [HF.out]; rfl, END (W := w)⟩
    ·
     have HF : Aside0 (shM s cols n = false) := ⟨by unfold shM; rw [decide_eq_false h3]; simp⟩
     go_enter Tryd.func119, Tryd.ntmps119
     go_wp2
     go_region
     go_wp2
     go_ret
     exact ⟨by rw [HF.out]; rfl, END (W := w)⟩
   ·
    have HF : Aside0 (shM s cols n = false) := ⟨by unfold shM; rw [decide_eq_false h2]; simp⟩
    go_enter Tryd.func119, Tryd.ntmps119
    go_wp2
    go_region
    go_wp2
    go_ret
    exact ⟨by rw [HF.out]; rfl, END (W := w)⟩
  ·
   have HF : Aside0 (shM s cols n = false) := ⟨by unfold shM; rw [decide_eq_false h1]; simp⟩
   go_enter Tryd.func119, Tryd.ntmps119
   go_wp2
   go_region
   go_wp2
   go_ret
   exact ⟨by rw [HF.out]; rfl, END (W := w)⟩
 ·
  replace h0 : s.toList.isEmpty = false := by simpa using h0
  have H0 := Aside0.mk h0
  have HF : Aside0 (shM s cols n = false) := ⟨by unfold shM; simp [h0]⟩
  go_enter Tryd.func119, Tryd.ntmps119
  go_wp2
  go_region
  go_wp2
  go_ret
  exact ⟨by rw [HF.out]; rfl, END (W := w)⟩
end Go.Proofs.YtagkhoeidjlahaaDoor.G
namespace Go.Proofs.YtagkhoeidjlahaaDoor.G
open Go.RowKit Go.Proofs.YtagkhoeidjlahaaDoorW.PrintWords Go.Proofs.YtagkhoeidjlahaaDoorW.PrintLast Go.Proofs.YtagkhoeidjlahaaDoorW.PrintMore
attribute [local go_sem] max2_int min2_int max_two min_two max_three min_three max_four min_four
set_option linter.unusedVariables false
set_option linter.unusedSimpArgs false
set_option maxHeartbeats 4000000 in
set_option maxRecDepth 100000 in
theorem shape2 (s : ByteArray) (cols : Int) (A : Option Addr) (n c g gf : Nat) (left : Int) (b : Bool) (w : World) (hn : n ≤ 9223372036854775807)
  (hg : w.heap[g]? = some (.cells #[.slice (some ⟨gf, 0, none⟩) 13 13, .int .i64 left] 103 (0, 0))) (hf : w.heap[gf]? = some (.cells formCells 113 (0, 0)))
  (ht : ∀ W, Calls Tryd.prog 114 #[.string s] W fun e W' => e = .returned (.bool b) ∧ Below W.heap.size W W') :
  Calls Tryd.prog 119 #[.pointer (some ⟨g, 0, none⟩), .agg #[.int .i64 2, .string s, .int .i64 cols, .slice A n c]] w fun e w' => e = .returned (.bool (shT b cols n 0)) ∧ Below w.heap.size w w' := by
 have hc := blk_cell hg 0
 have hfc0 := blk_cell hf 6
 have hfc1 := blk_cell hf 7
 have hfc2 := blk_cell hf 8
 have hlg := blk_lt hg
 have hlf := blk_lt hf
 have hu113 := Tryd.underlying113
 have hu36 := Tryd.underlying36
 have hu103 := Tryd.underlying103
 simp [formCells, str, fnv] at hc hfc0 hfc1 hfc2
 have HT := Aside0.mk ht
 clear hg hf ht

 have hfin : ∀ w', Below ((w.alloc (.cells #[.int .i64 2, .string s, .int .i64 cols, .slice A n c] 36)).alloc (.cells #[.string ⟨#[115, 121, 109]⟩, .func (.func 114) #[] #[], .int .i64 0] 113)).drew.heap.size ((w.alloc (.cells #[.int .i64 2, .string s, .int .i64 cols, .slice A n c] 36)).alloc (.cells #[.string ⟨#[115, 121, 109]⟩, .func (.func 114) #[] #[], .int .i64 0] 113)).drew w' → Below w.heap.size w w' := fun w' hb => below_step (below_drew1 (below_alloc (below_alloc (Below.refl _ _) _) _)) hb
 have HFIN := Aside0.mk hfin
 clear hfin
 cases b with
 | false =>
  have HF : Aside0 (shT false cols n 0 = false) := ⟨by rfl⟩
  go_enter Tryd.func119, Tryd.ntmps119
  go_wp2
  go_region
  go_wp2_with (go_at_call 114; refine (HT.out _).mono ?_; rintro e w' ⟨rfl, hb⟩; have HB := Aside0.mk (HFIN.out _ hb); clear hb)
  go_ret
  exact ⟨by rw [HF.out]; rfl, HB.out⟩
 | true =>
  by_cases h1 : cols = 0
  ·
   subst h1
   by_cases h2 : n = 0
   ·
    subst h2
    have HF : Aside0 (shT true 0 0 0 = true) := ⟨by rfl⟩
    go_enter Tryd.func119, Tryd.ntmps119
    go_wp2
    go_region
    go_wp2_with (go_at_call 114; refine (HT.out _).mono ?_; rintro e w' ⟨rfl, hb⟩; have b1 := blk_below (blk_drew (blk_alloc (blk_new w _) _)) hb; have b2 := blk_below (blk_drew (blk_new (w.alloc _) _)) hb; have q2 := blk_cell b1 2; have q3 := blk_cell b1 3; have q4 := blk_cell b2 2; have HB := Aside0.mk (HFIN.out _ hb); clear hb b1 b2; simp at q2 q3 q4)
    go_ret
    exact ⟨by rw [HF.out]; rfl, HB.out⟩
   ·
    have h2b : ((n : Int) == 0) = false := by simp; omega
    have HF : Aside0 (shT true 0 n 0 = false) := ⟨by unfold shT; simp [h2]⟩
    go_enter Tryd.func119, Tryd.ntmps119
    go_wp2
    go_region
    go_wp2_with (go_at_call 114; refine (HT.out _).mono ?_; rintro e w' ⟨rfl, hb⟩; have b1 := blk_below (blk_drew (blk_alloc (blk_new w _) _)) hb; have b2 := blk_below (blk_drew (blk_new (w.alloc _) _)) hb; have q2 := blk_cell b1 2; have q3 := blk_cell b1 3; have q4 := blk_cell b2 2; have HB := Aside0.mk (HFIN.out _ hb); clear hb b1 b2; simp at q2 q3 q4)
    go_ret
    exact ⟨by rw [HF.out]; rfl, HB.out⟩
  ·
   have h1b : (cols == 0) = false := by simpa using h1
   have HF : Aside0 (shT true cols n 0 = false) := ⟨by unfold shT; simp [h1]⟩
   go_enter Tryd.func119, Tryd.ntmps119
   go_wp2
   go_region
   go_wp2_with (go_at_call 114; refine (HT.out _).mono ?_; rintro e w' ⟨rfl, hb⟩; have b1 := blk_below (blk_drew (blk_alloc (blk_new w _) _)) hb; have b2 := blk_below (blk_drew (blk_new (w.alloc _) _)) hb; have q2 := blk_cell b1 2; have q3 := blk_cell b1 3; have q4 := blk_cell b2 2; have HB := Aside0.mk (HFIN.out _ hb); clear hb b1 b2; simp at q2 q3 q4)
   go_ret
   exact ⟨by rw [HF.out]; rfl, HB.out⟩
set_option maxHeartbeats 4000000 in
set_option maxRecDepth 100000 in
theorem shape3 (s : ByteArray) (cols : Int) (A : Option Addr) (n c g gf : Nat) (left : Int) (b : Bool) (w : World) (hn : n ≤ 9223372036854775807)
  (hg : w.heap[g]? = some (.cells #[.slice (some ⟨gf, 0, none⟩) 13 13, .int .i64 left] 103 (0, 0))) (hf : w.heap[gf]? = some (.cells formCells 113 (0, 0)))
  (ht : ∀ W, Calls Tryd.prog 115 #[.string s] W fun e W' => e = .returned (.bool b) ∧ Below W.heap.size W W') :
  Calls Tryd.prog 119 #[.pointer (some ⟨g, 0, none⟩), .agg #[.int .i64 3, .string s, .int .i64 cols, .slice A n c]] w fun e w' => e = .returned (.bool (shT b cols n 0)) ∧ Below w.heap.size w w' := by
 have hc := blk_cell hg 0
 have hfc0 := blk_cell hf 9
 have hfc1 := blk_cell hf 10
 have hfc2 := blk_cell hf 11
 have hlg := blk_lt hg
 have hlf := blk_lt hf
 have hu113 := Tryd.underlying113
 have hu36 := Tryd.underlying36
 have hu103 := Tryd.underlying103
 simp [formCells, str, fnv] at hc hfc0 hfc1 hfc2
 have HT := Aside0.mk ht
 clear hg hf ht

 have hfin : ∀ w', Below ((w.alloc (.cells #[.int .i64 3, .string s, .int .i64 cols, .slice A n c] 36)).alloc (.cells #[.string ⟨#[110, 117, 109]⟩, .func (.func 115) #[] #[], .int .i64 0] 113)).drew.heap.size ((w.alloc (.cells #[.int .i64 3, .string s, .int .i64 cols, .slice A n c] 36)).alloc (.cells #[.string ⟨#[110, 117, 109]⟩, .func (.func 115) #[] #[], .int .i64 0] 113)).drew w' → Below w.heap.size w w' := fun w' hb => below_step (below_drew1 (below_alloc (below_alloc (Below.refl _ _) _) _)) hb
 have HFIN := Aside0.mk hfin
 clear hfin
 cases b with
 | false =>
  have HF : Aside0 (shT false cols n 0 = false) := ⟨by rfl⟩
  go_enter Tryd.func119, Tryd.ntmps119
  go_wp2
  go_region
  go_wp2_with (go_at_call 115; refine (HT.out _).mono ?_; rintro e w' ⟨rfl, hb⟩; have HB := Aside0.mk (HFIN.out _ hb); clear hb)
  go_ret
  exact ⟨by rw [HF.out]; rfl, HB.out⟩
 | true =>
  by_cases h1 : cols = 0
  ·
   subst h1
   by_cases h2 : n = 0
   ·
    subst h2
    have HF : Aside0 (shT true 0 0 0 = true) := ⟨by rfl⟩
    go_enter Tryd.func119, Tryd.ntmps119
    go_wp2
    go_region
    go_wp2_with (go_at_call 115; refine (HT.out _).mono ?_; rintro e w' ⟨rfl, hb⟩; have b1 := blk_below (blk_drew (blk_alloc (blk_new w _) _)) hb; have b2 := blk_below (blk_drew (blk_new (w.alloc _) _)) hb; have q2 := blk_cell b1 2; have q3 := blk_cell b1 3; have q4 := blk_cell b2 2; have HB := Aside0.mk (HFIN.out _ hb); clear hb b1 b2; simp at q2 q3 q4)
    go_ret
    exact ⟨by rw [HF.out]; rfl, HB.out⟩
   ·
    have h2b : ((n : Int) == 0) = false := by simp; omega
    have HF : Aside0 (shT true 0 n 0 = false) := ⟨by unfold shT; simp [h2]⟩
    go_enter Tryd.func119, Tryd.ntmps119
    go_wp2
    go_region
    go_wp2_with (go_at_call 115; refine (HT.out _).mono ?_; rintro e w' ⟨rfl, hb⟩; have b1 := blk_below (blk_drew (blk_alloc (blk_new w _) _)) hb; have b2 := blk_below (blk_drew (blk_new (w.alloc _) _)) hb; have q2 := blk_cell b1 2; have q3 := blk_cell b1 3; have q4 := blk_cell b2 2; have HB := Aside0.mk (HFIN.out _ hb); clear hb b1 b2; simp at q2 q3 q4)
    go_ret
    exact ⟨by rw [HF.out]; rfl, HB.out⟩
  ·
   have h1b : (cols == 0) = false := by simpa using h1
   have HF : Aside0 (shT true cols n 0 = false) := ⟨by unfold shT; simp [h1]⟩
   go_enter Tryd.func119, Tryd.ntmps119
   go_wp2
   go_region
   go_wp2_with (go_at_call 115; refine (HT.out _).mono ?_; rintro e w' ⟨rfl, hb⟩; have b1 := blk_below (blk_drew (blk_alloc (blk_new w _) _)) hb; have b2 := blk_below (blk_drew (blk_new (w.alloc _) _)) hb; have q2 := blk_cell b1 2; have q3 := blk_cell b1 3; have q4 := blk_cell b2 2; have HB := Aside0.mk (HFIN.out _ hb); clear hb b1 b2; simp at q2 q3 q4)
   go_ret
   exact ⟨by rw [HF.out]; rfl, HB.out⟩
set_option maxHeartbeats 4000000 in
set_option maxRecDepth 100000 in
theorem shape4 (s : ByteArray) (cols : Int) (A : Option Addr) (n c g gf : Nat) (left : Int) (b : Bool) (w : World) (hn : n ≤ 9223372036854775807)
  (hg : w.heap[g]? = some (.cells #[.slice (some ⟨gf, 0, none⟩) 13 13, .int .i64 left] 103 (0, 0))) (hf : w.heap[gf]? = some (.cells formCells 113 (0, 0)))
  (ht : ∀ W, Calls Tryd.prog 116 #[.string s] W fun e W' => e = .returned (.bool b) ∧ Below W.heap.size W W') :
  Calls Tryd.prog 119 #[.pointer (some ⟨g, 0, none⟩), .agg #[.int .i64 4, .string s, .int .i64 cols, .slice A n c]] w fun e w' => e = .returned (.bool (shT b cols n 0)) ∧ Below w.heap.size w w' := by
 have hc := blk_cell hg 0
 have hfc0 := blk_cell hf 12
 have hfc1 := blk_cell hf 13
 have hfc2 := blk_cell hf 14
 have hlg := blk_lt hg
 have hlf := blk_lt hf
 have hu113 := Tryd.underlying113
 have hu36 := Tryd.underlying36
 have hu103 := Tryd.underlying103
 simp [formCells, str, fnv] at hc hfc0 hfc1 hfc2
 have HT := Aside0.mk ht
 clear hg hf ht

 have hfin : ∀ w', Below ((w.alloc (.cells #[.int .i64 4, .string s, .int .i64 cols, .slice A n c] 36)).alloc (.cells #[.string ⟨#[116, 101, 120, 116]⟩, .func (.func 116) #[] #[], .int .i64 0] 113)).drew.heap.size ((w.alloc (.cells #[.int .i64 4, .string s, .int .i64 cols, .slice A n c] 36)).alloc (.cells #[.string ⟨#[116, 101, 120, 116]⟩, .func (.func 116) #[] #[], .int .i64 0] 113)).drew w' → Below w.heap.size w w' := fun w' hb => below_step (below_drew1 (below_alloc (below_alloc (Below.refl _ _) _) _)) hb
 have HFIN := Aside0.mk hfin
 clear hfin
 cases b with
 | false =>
  have HF : Aside0 (shT false cols n 0 = false) := ⟨by rfl⟩
  go_enter Tryd.func119, Tryd.ntmps119
  go_wp2
  go_region
  go_wp2_with (go_at_call 116; refine (HT.out _).mono ?_; rintro e w' ⟨rfl, hb⟩; have HB := Aside0.mk (HFIN.out _ hb); clear hb)
  go_ret
  exact ⟨by rw [HF.out]; rfl, HB.out⟩
 | true =>
  by_cases h1 : cols = 0
  ·
   subst h1
   by_cases h2 : n = 0
   ·
    subst h2
    have HF : Aside0 (shT true 0 0 0 = true) := ⟨by rfl⟩
    go_enter Tryd.func119, Tryd.ntmps119
    go_wp2
    go_region
    go_wp2_with (go_at_call 116; refine (HT.out _).mono ?_; rintro e w' ⟨rfl, hb⟩; have b1 := blk_below (blk_drew (blk_alloc (blk_new w _) _)) hb; have b2 := blk_below (blk_drew (blk_new (w.alloc _) _)) hb; have q2 := blk_cell b1 2; have q3 := blk_cell b1 3; have q4 := blk_cell b2 2; have HB := Aside0.mk (HFIN.out _ hb); clear hb b1 b2; simp at q2 q3 q4)
    go_ret
    exact ⟨by rw [HF.out]; rfl, HB.out⟩
   ·
    have h2b : ((n : Int) == 0) = false := by simp; omega
    have HF : Aside0 (shT true 0 n 0 = false) := ⟨by unfold shT; simp [h2]⟩
    go_enter Tryd.func119, Tryd.ntmps119
    go_wp2
    go_region
    go_wp2_with (go_at_call 116; refine (HT.out _).mono ?_; rintro e w' ⟨rfl, hb⟩; have b1 := blk_below (blk_drew (blk_alloc (blk_new w _) _)) hb; have b2 := blk_below (blk_drew (blk_new (w.alloc _) _)) hb; have q2 := blk_cell b1 2; have q3 := blk_cell b1 3; have q4 := blk_cell b2 2; have HB := Aside0.mk (HFIN.out _ hb); clear hb b1 b2; simp at q2 q3 q4)
    go_ret
    exact ⟨by rw [HF.out]; rfl, HB.out⟩
  ·
   have h1b : (cols == 0) = false := by simpa using h1
   have HF : Aside0 (shT true cols n 0 = false) := ⟨by unfold shT; simp [h1]⟩
   go_enter Tryd.func119, Tryd.ntmps119
   go_wp2
   go_region
   go_wp2_with (go_at_call 116; refine (HT.out _).mono ?_; rintro e w' ⟨rfl, hb⟩; have b1 := blk_below (blk_drew (blk_alloc (blk_new w _) _)) hb; have b2 := blk_below (blk_drew (blk_new (w.alloc _) _)) hb; have q2 := blk_cell b1 2; have q3 := blk_cell b1 3; have q4 := blk_cell b2 2; have HB := Aside0.mk (HFIN.out _ hb); clear hb b1 b2; simp at q2 q3 q4)
   go_ret
   exact ⟨by rw [HF.out]; rfl, HB.out⟩
end Go.Proofs.YtagkhoeidjlahaaDoor.G
