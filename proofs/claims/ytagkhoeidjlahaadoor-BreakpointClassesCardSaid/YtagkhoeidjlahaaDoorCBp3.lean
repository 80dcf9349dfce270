-- Written by pack2.py, a program of this session: this session's texts and those that the kit's printer wrote for this claim, pruned to what the claims use.
import Derived.Test.YtagkhoeidjlahaaDoorCBp2
namespace Go.Proofs.YtagkhoeidjlahaaDoor.G
open Go.RowKit Go.Proofs.YtagkhoeidjlahaaDoorW.PrintWords Go.Proofs.YtagkhoeidjlahaaDoorW.PrintLast Go.Proofs.YtagkhoeidjlahaaDoorW.PrintMore
attribute [local go_sem] max2_int min2_int max_two min_two max_three min_three max_four min_four
set_option linter.unusedVariables false
set_option linter.unusedSimpArgs false
def node_digits.f (a0 : ByteArray) : Option (Bool) := if a0.toList = ([] : List UInt8) then (some false) else ((strings_Trim.f a0 (⟨#[48, 49, 50, 51, 52, 53, 54, 55, 56, 57]⟩ : ByteArray)).bind fun t121 => (some (t121.toList == ([] : List UInt8))))
set_option maxHeartbeats 8000000 in
set_option maxRecDepth 100000 in
theorem node_digits.calls (a0 : ByteArray) (r : Bool) (w : World) (h : node_digits.f a0 = some r) :
    Calls Tryd.prog 134 #[.string a0] w fun e w' => e = .returned (.bool r) ∧ Below w.heap.size w w' := by
  have HB := Aside0.mk (Below.refl w.heap.size w)
  have H : (if a0.toList = ([] : List UInt8) then (some false) else ((strings_Trim.f a0 (⟨#[48, 49, 50, 51, 52, 53, 54, 55, 56, 57]⟩ : ByteArray)).bind fun t121 => (some (t121.toList == ([] : List UInt8))))) = some r := h
  clear h
  by_cases c2 : a0.toList = ([] : List UInt8)
  · rw [if_pos c2] at H
    have c2b0 : (a0.toList == ([] : List UInt8)) = true := beq_iff_eq.mpr c2
    have c2b1 : (a0.toList != ([] : List UInt8)) = false := bne_eq_false_iff_eq.mpr c2
    clear c2
    obtain rfl := Option.some.inj H
    go_enter Tryd.func134, Tryd.ntmps134
    go_wp2
    go_ret
    exact ⟨by first | rfl | (simp [errW_none, errW_some] <;> rfl) | (simp [*, errW_none, errW_some] <;> rfl), by repeat (first | (with_reducible first | exact HB.out | apply below_alloc | apply pw_below_drewN | apply below_drew1) | exact HB.out)⟩
  · rw [if_neg c2] at H
    have c2b0 : (a0.toList == ([] : List UInt8)) = false := beq_eq_false_iff_ne.mpr c2
    have c2b1 : (a0.toList != ([] : List UInt8)) = true := bne_iff_ne.mpr c2
    replace H := Option.bind_eq_some_iff.mp H
    obtain ⟨t121, A30, H⟩ := H
    replace H : (some (t121.toList == ([] : List UInt8))) = some r := H
    have A3 := Aside0.mk A30
    clear A30
    obtain rfl := Option.some.inj H
    go_enter Tryd.func134, Tryd.ntmps134
    go_wp2_with (first | (go_at_call 145; (with_reducible refine (strings_Trim.calls a0 (⟨#[48, 49, 50, 51, 52, 53, 54, 55, 56, 57]⟩ : ByteArray) t121 _ A3.out).mono ?_); rintro e w4 ⟨rfl, hb⟩; have n0_ := Aside0.mk (below_step (by repeat (first | (with_reducible first | exact HB.out | apply below_alloc | apply pw_below_drewN | apply below_drew1) | exact HB.out)) hb); clear HB; have HB := n0_; clear n0_; (try clear hb); (try clear hb2); (try clear hk); (try clear hi)))
    go_ret
    exact ⟨by first | rfl | (simp [errW_none, errW_some] <;> rfl) | (simp [*, errW_none, errW_some] <;> rfl), by repeat (first | (with_reducible first | exact HB.out | apply below_alloc | apply pw_below_drewN | apply below_drew1) | exact HB.out)⟩
end Go.Proofs.YtagkhoeidjlahaaDoor.G
namespace Go.Proofs.YtagkhoeidjlahaaDoor.G
open Go.RowKit Go.Proofs.YtagkhoeidjlahaaDoorW.PrintWords Go.Proofs.YtagkhoeidjlahaaDoorW.PrintLast Go.Proofs.YtagkhoeidjlahaaDoorW.PrintMore
attribute [local go_sem] max2_int min2_int max_two min_two max_three min_three max_four min_four
set_option linter.unusedVariables false
set_option linter.unusedSimpArgs false
def node_Number.f (a0 : ByteArray) : Option (Bool) := if (a0.size : Int) > 20 then (some false) else ((strings_Cut.f a0 (⟨#[46]⟩ : ByteArray)).bind fun bt122 => ((node_digits.f bt122.1).bind fun t125 => (if t125 = true then (if bt122.2.2 = true then ((node_digits.f bt122.2.1).bind fun t126 => (some t126)) else (some true)) else (some false))))
set_option maxHeartbeats 8000000 in
set_option maxRecDepth 100000 in
theorem node_Number.calls (a0 : ByteArray) (r : Bool) (w : World) (h : node_Number.f a0 = some r) :
    Calls Tryd.prog 115 #[.string a0] w fun e w' => e = .returned (.bool r) ∧ Below w.heap.size w w' := by
  have HB := Aside0.mk (Below.refl w.heap.size w)
  have H : (if (a0.size : Int) > 20 then (some false) else ((strings_Cut.f a0 (⟨#[46]⟩ : ByteArray)).bind fun bt122 => ((node_digits.f bt122.1).bind fun t125 => (if t125 = true then (if bt122.2.2 = true then ((node_digits.f bt122.2.1).bind fun t126 => (some t126)) else (some true)) else (some false))))) = some r := h
  clear h
  by_cases c2 : (a0.size : Int) > 20
  · rw [if_pos c2] at H
    have c2b0 : decide (20 < (a0.size : Int)) = true := decide_eq_true c2
    have c2b1 : decide (20 < a0.size) = true := decide_eq_true (by omega)
    clear c2
    obtain rfl := Option.some.inj H
    go_enter Tryd.func115, Tryd.ntmps115
    go_wp2
    go_ret
    exact ⟨by first | rfl | (simp [errW_none, errW_some] <;> rfl) | (simp [*, errW_none, errW_some] <;> rfl), by repeat (first | (with_reducible first | exact HB.out | apply below_alloc | apply pw_below_drewN | apply below_drew1) | exact HB.out)⟩
  · rw [if_neg c2] at H
    have c2b0 : decide (20 < (a0.size : Int)) = false := decide_eq_false c2
    have c2b1 : decide (20 < a0.size) = false := decide_eq_false (by omega)
    clear c2
    replace H := Option.bind_eq_some_iff.mp H
    obtain ⟨⟨t122, t123, t124⟩, A30, H⟩ := H
    replace H : ((node_digits.f t122).bind fun t125 => (if t125 = true then (if t124 = true then ((node_digits.f t123).bind fun t126 => (some t126)) else (some true)) else (some false))) = some r := H
    have A3 := Aside0.mk A30
    clear A30
    replace H := Option.bind_eq_some_iff.mp H
    obtain ⟨t125, A40, H⟩ := H
    replace H : (if t125 = true then (if t124 = true then ((node_digits.f t123).bind fun t126 => (some t126)) else (some true)) else (some false)) = some r := H
    have A4 := Aside0.mk A40
    clear A40
    by_cases c5 : t125 = true
    · subst c5
      have H1 : (if t124 = true then ((node_digits.f t123).bind fun t126 => (some t126)) else (some true)) = some r := by rw [if_pos rfl] at H; exact H
      clear H
      have H := H1
      clear H1
      by_cases c6 : t124 = true
      · subst c6
        have H1 : ((node_digits.f t123).bind fun t126 => (some t126)) = some r := by rw [if_pos rfl] at H; exact H
        clear H
        have H := H1
        clear H1
        replace H := Option.bind_eq_some_iff.mp H
        obtain ⟨t126, A70, H⟩ := H
        replace H : (some t126) = some r := H
        have A7 := Aside0.mk A70
        clear A70
        obtain rfl := Option.some.inj H
        go_enter Tryd.func115, Tryd.ntmps115
        go_wp2_with (first | ((with_reducible refine gate_callee (f := 133) rfl ?_); refine goesL_ (some 11) rfl rfl Tryd.func133 (by kernel_rfl) rfl #[.string a0, .string (⟨#[46]⟩ : ByteArray)] rfl (by (try simp only [List.map_toArray, List.map_cons, List.map_nil]); first | done | rfl | (simp only [List.length_drop, List.length_take]; rfl)) ?_; (with_reducible refine (strings_Cut.calls a0 (⟨#[46]⟩ : ByteArray) t122 t123 true _ A3.out).mono ?_); rintro e w' ⟨rfl, ⟨nd, rfl⟩⟩; refine ⟨_, rfl, ?_⟩) | ((with_reducible refine gate_callee (f := 134) rfl ?_); refine goesL_ (some 16) rfl rfl Tryd.func134 (by kernel_rfl) rfl #[.string t122] rfl (by (try simp only [List.map_toArray, List.map_cons, List.map_nil]); first | done | rfl | (simp only [List.length_drop, List.length_take]; rfl)) ?_; (with_reducible refine (node_digits.calls t122 true _ A4.out).mono ?_); rintro e w8 ⟨rfl, hb⟩; refine ⟨_, rfl, ?_⟩; have n0_ := Aside0.mk (below_step (by repeat (first | (with_reducible first | exact HB.out | apply below_alloc | apply pw_below_drewN | apply below_drew1) | exact HB.out)) hb); clear HB; have HB := n0_; clear n0_; (try clear hb); (try clear hb2); (try clear hk); (try clear hi)) | (go_at_call 134; (with_reducible refine (node_digits.calls t123 t126 _ A7.out).mono ?_); rintro e w9 ⟨rfl, hb⟩; have n0_ := Aside0.mk (below_step (by repeat (first | (with_reducible first | exact HB.out | apply below_alloc | apply pw_below_drewN | apply below_drew1) | exact HB.out)) hb); clear HB; have HB := n0_; clear n0_; (try clear hb); (try clear hb2); (try clear hk); (try clear hi)))
        go_ret
        exact ⟨by first | rfl | (simp [errW_none, errW_some] <;> rfl) | (simp [*, errW_none, errW_some] <;> rfl), by repeat (first | (with_reducible first | exact HB.out | apply below_alloc | apply pw_below_drewN | apply below_drew1) | exact HB.out)⟩
      · replace c6 := Bool.eq_false_iff.mpr c6
        subst c6
        have H1 : (some true) = some r := by rw [if_neg (show ¬ (false = true) by decide)] at H; exact H
        clear H
        have H := H1
        clear H1
        obtain rfl := Option.some.inj H
        go_enter Tryd.func115, Tryd.ntmps115
        go_wp2_with (first | ((with_reducible refine gate_callee (f := 133) rfl ?_); refine goesL_ (some 11) rfl rfl Tryd.func133 (by kernel_rfl) rfl #[.string a0, .string (⟨#[46]⟩ : ByteArray)] rfl (by (try simp only [List.map_toArray, List.map_cons, List.map_nil]); first | done | rfl | (simp only [List.length_drop, List.length_take]; rfl)) ?_; (with_reducible refine (strings_Cut.calls a0 (⟨#[46]⟩ : ByteArray) t122 t123 false _ A3.out).mono ?_); rintro e w' ⟨rfl, ⟨nd, rfl⟩⟩; refine ⟨_, rfl, ?_⟩) | ((with_reducible refine gate_callee (f := 134) rfl ?_); refine goesL_ (some 16) rfl rfl Tryd.func134 (by kernel_rfl) rfl #[.string t122] rfl (by (try simp only [List.map_toArray, List.map_cons, List.map_nil]); first | done | rfl | (simp only [List.length_drop, List.length_take]; rfl)) ?_; (with_reducible refine (node_digits.calls t122 true _ A4.out).mono ?_); rintro e w10 ⟨rfl, hb⟩; refine ⟨_, rfl, ?_⟩; have n0_ := Aside0.mk (below_step (by repeat (first | (with_reducible first | exact HB.out | apply below_alloc | apply pw_below_drewN | apply below_drew1) | exact HB.out)) hb); clear HB; have HB := n0_; clear n0_; (try clear hb); (try clear hb2); (try clear hk); (try clear hi)))
        go_ret
        exact ⟨by first | rfl | (simp [errW_none, errW_some] <;> rfl) | (simp [*, errW_none, errW_some] <;> rfl), by repeat (first | (with_reducible first | exact HB.out | apply below_alloc | apply pw_below_drewN | apply below_drew1) | exact HB.out)⟩
    · replace c5 := Bool.eq_false_iff.mpr c5
      subst c5
      have H1 : (some false) = some r := by rw [if_neg (show ¬ (false = true) by decide)] at H; exact H
      clear H
      have H := H1
      clear H1
      obtain rfl := Option.some.inj H
      go_enter Tryd.func115, Tryd.ntmps115
      go_wp2_with (first | ((with_reducible refine gate_callee (f := 133) rfl ?_); refine goesL_ (some 11) rfl rfl Tryd.func133 (by kernel_rfl) rfl #[.string a0, .string (⟨#[46]⟩ : ByteArray)] rfl (by (try simp only [List.map_toArray, List.map_cons, List.map_nil]); first | done | rfl | (simp only [List.length_drop, List.length_take]; rfl)) ?_; (with_reducible refine (strings_Cut.calls a0 (⟨#[46]⟩ : ByteArray) t122 t123 t124 _ A3.out).mono ?_); rintro e w' ⟨rfl, ⟨nd, rfl⟩⟩; refine ⟨_, rfl, ?_⟩) | ((with_reducible refine gate_callee (f := 134) rfl ?_); refine goesL_ (some 16) rfl rfl Tryd.func134 (by kernel_rfl) rfl #[.string t122] rfl (by (try simp only [List.map_toArray, List.map_cons, List.map_nil]); first | done | rfl | (simp only [List.length_drop, List.length_take]; rfl)) ?_; (with_reducible refine (node_digits.calls t122 false _ A4.out).mono ?_); rintro e w11 ⟨rfl, hb⟩; refine ⟨_, rfl, ?_⟩; have n0_ := Aside0.mk (below_step (by repeat (first | (with_reducible first | exact HB.out | apply below_alloc | apply pw_below_drewN | apply below_drew1) | exact HB.out)) hb); clear HB; have HB := n0_; clear n0_; (try clear hb); (try clear hb2); (try clear hk); (try clear hi)))
      go_ret
      exact ⟨by first | rfl | (simp [errW_none, errW_some] <;> rfl) | (simp [*, errW_none, errW_some] <;> rfl), by repeat (first | (with_reducible first | exact HB.out | apply below_alloc | apply pw_below_drewN | apply below_drew1) | exact HB.out)⟩
end Go.Proofs.YtagkhoeidjlahaaDoor.G
namespace Go.Proofs.YtagkhoeidjlahaaDoor.G
open Go.RowKit Go.Proofs.YtagkhoeidjlahaaDoorW.PrintWords Go.Proofs.YtagkhoeidjlahaaDoorW.PrintLast Go.Proofs.YtagkhoeidjlahaaDoorW.PrintMore
attribute [local go_sem] max2_int min2_int max_two min_two max_three min_three max_four min_four
set_option linter.unusedVariables false
set_option linter.unusedSimpArgs false
def node_fence.f (a0 : ByteArray) : Option (Bool) := if (a0.size : Int) = 2 then (if 0 ≤ 1 then (if 1 ≤ (a0.size : Int) then ((strings_Contains.f (⟨#[40, 41, 91, 93, 123, 125, 60, 62, 47, 124, 46]⟩ : ByteArray) (a0.extract 0 1)).bind fun t127 => (if t127 = true then ((strings_Contains.f (⟨#[40, 41, 91, 93, 123, 125, 60, 62, 47, 124, 46]⟩ : ByteArray) (a0.extract 1 a0.size)).bind fun t128 => (some t128)) else (some false))) else (none)) else (none)) else (some false)
set_option maxHeartbeats 8000000 in
set_option maxRecDepth 100000 in
theorem node_fence.calls (a0 : ByteArray) (r : Bool) (w : World) (h : node_fence.f a0 = some r) :
    Calls Tryd.prog 118 #[.string a0] w fun e w' => e = .returned (.bool r) ∧ Drawn0 w w' := by
  have H : (if (a0.size : Int) = 2 then (if 0 ≤ 1 then (if 1 ≤ (a0.size : Int) then ((strings_Contains.f (⟨#[40, 41, 91, 93, 123, 125, 60, 62, 47, 124, 46]⟩ : ByteArray) (a0.extract 0 1)).bind fun t127 => (if t127 = true then ((strings_Contains.f (⟨#[40, 41, 91, 93, 123, 125, 60, 62, 47, 124, 46]⟩ : ByteArray) (a0.extract 1 a0.size)).bind fun t128 => (some t128)) else (some false))) else (none)) else (none)) else (some false)) = some r := h
  clear h
  by_cases c2 : (a0.size : Int) = 2
  · rw [if_pos c2] at H
    have c2b0 : ((a0.size : Int) == 2) = true := beq_iff_eq.mpr c2
    have c2b1 : ((a0.size : Int) != 2) = false := bne_eq_false_iff_eq.mpr c2
    clear c2
    by_cases c3 : 0 ≤ 1
    · rw [if_pos c3] at H
      have c3b0 := eq_true c3
      have c3b1 : decide (0 ≤ 1) = true := decide_eq_true c3
      clear c3
      by_cases c4 : 1 ≤ (a0.size : Int)
      · rw [if_pos c4] at H
        have c4b0 := eq_true c4
        have c4b1 : decide (1 ≤ (a0.size : Int)) = true := decide_eq_true c4
        clear c4
        replace H := Option.bind_eq_some_iff.mp H
        obtain ⟨t127, A50, H⟩ := H
        replace H : (if t127 = true then ((strings_Contains.f (⟨#[40, 41, 91, 93, 123, 125, 60, 62, 47, 124, 46]⟩ : ByteArray) (a0.extract 1 a0.size)).bind fun t128 => (some t128)) else (some false)) = some r := H
        have A5 := Aside0.mk A50
        clear A50
        by_cases c6 : t127 = true
        · subst c6
          have H1 : ((strings_Contains.f (⟨#[40, 41, 91, 93, 123, 125, 60, 62, 47, 124, 46]⟩ : ByteArray) (a0.extract 1 a0.size)).bind fun t128 => (some t128)) = some r := by rw [if_pos rfl] at H; exact H
          clear H
          have H := H1
          clear H1
          have c7b0 := eq_true (of_decide_eq_true (by first | (with_reducible assumption) | assumption) : 1 ≤ (a0.size : Int))
          replace H := Option.bind_eq_some_iff.mp H
          obtain ⟨t128, A80, H⟩ := H
          replace H : (some t128) = some r := H
          have A8 := Aside0.mk A80
          clear A80
          obtain rfl := Option.some.inj H
          go_enter Tryd.func118, Tryd.ntmps118
          go_wp2_with (first | (go_at_call 131; (with_reducible refine (strings_Contains.calls (⟨#[40, 41, 91, 93, 123, 125, 60, 62, 47, 124, 46]⟩ : ByteArray) (a0.extract 0 1) true _ A5.out).mono ?_); rintro e w' ⟨rfl, ⟨nd, rfl⟩⟩) | (go_at_call 131; (with_reducible refine (strings_Contains.calls (⟨#[40, 41, 91, 93, 123, 125, 60, 62, 47, 124, 46]⟩ : ByteArray) (a0.extract 1 a0.size) t128 _ A8.out).mono ?_); rintro e w' ⟨rfl, ⟨nd, rfl⟩⟩))
          go_ret
          exact ⟨by first | rfl | (simp; done) | (simp [*]; done), by repeat (first | exact Drawn0.refl _ | apply Drawn0.step)⟩
        · replace c6 := Bool.eq_false_iff.mpr c6
          subst c6
          have H1 : (some false) = some r := by rw [if_neg (show ¬ (false = true) by decide)] at H; exact H
          clear H
          have H := H1
          clear H1
          obtain rfl := Option.some.inj H
          go_enter Tryd.func118, Tryd.ntmps118
          go_wp2_with (first | (go_at_call 131; (with_reducible refine (strings_Contains.calls (⟨#[40, 41, 91, 93, 123, 125, 60, 62, 47, 124, 46]⟩ : ByteArray) (a0.extract 0 1) false _ A5.out).mono ?_); rintro e w' ⟨rfl, ⟨nd, rfl⟩⟩))
          go_ret
          exact ⟨by first | rfl | (simp; done) | (simp [*]; done), by repeat (first | exact Drawn0.refl _ | apply Drawn0.step)⟩
      · rw [if_neg c4] at H
        exact absurd H (by simp)
    · rw [if_neg c3] at H
      exact absurd H (by simp)
  · rw [if_neg c2] at H
    have c2b0 : ((a0.size : Int) == 2) = false := beq_eq_false_iff_ne.mpr c2
    have c2b1 : ((a0.size : Int) != 2) = true := bne_iff_ne.mpr c2
    obtain rfl := Option.some.inj H
    go_enter Tryd.func118, Tryd.ntmps118
    go_wp2
    go_ret
    exact ⟨by first | rfl | (simp; done) | (simp [*]; done), by repeat (first | exact Drawn0.refl _ | apply Drawn0.step)⟩
end Go.Proofs.YtagkhoeidjlahaaDoor.G
namespace Go.Proofs.YtagkhoeidjlahaaDoor.G
open Go.RowKit Go.Proofs.YtagkhoeidjlahaaDoorW.PrintWords Go.Proofs.YtagkhoeidjlahaaDoorW.PrintLast Go.Proofs.YtagkhoeidjlahaaDoorW.PrintMore
attribute [local go_sem] max2_int min2_int max_two min_two max_three min_three max_four min_four
set_option linter.unusedVariables false
set_option linter.unusedSimpArgs false
set_option maxHeartbeats 4000000 in
set_option maxRecDepth 100000 in
theorem shapeOut (kd : Int) (s : ByteArray) (cols : Int) (A : Option Addr) (n c g : Nat) (w : World) (hk : kd < 1 ∨ 12 < kd) :
    Calls Tryd.prog 119 #[.pointer (some ⟨g, 0, none⟩), .agg #[.int .i64 kd, .string s, .int .i64 cols, .slice A n c]] w fun e w' => e = .returned (.bool false) ∧ Below w.heap.size w w' := by
  have hu36 := Tryd.underlying36
  rcases hk with h | h
  · have h' : decide (kd < 1) = true := decide_eq_true h
    go_enter Tryd.func119, Tryd.ntmps119
    go_wp2
    go_ret
    exact ⟨rfl, below_alloc (Below.refl _ _) _⟩
  · have h' : decide (kd < 1) = false := decide_eq_false (by omega)
    have h'' : decide (12 < kd) = true := decide_eq_true h
    go_enter Tryd.func119, Tryd.ntmps119
    go_wp2
    go_ret
    exact ⟨rfl, below_alloc (Below.refl _ _) _⟩
set_option maxHeartbeats 4000000 in
set_option maxRecDepth 100000 in
theorem shape1 (s : ByteArray) (cols : Int) (A : Option Addr) (n c g gf : Nat) (left : Int) (w : World) (hn : n ≤ 9223372036854775807)
    (hg : w.heap[g]? = some (.cells #[.slice (some ⟨gf, 0, none⟩) 13 13, .int .i64 left] 103 (0, 0))) (hf : w.heap[gf]? = some (.cells formCells 113 (0, 0))) :
    Calls Tryd.prog 119 #[.pointer (some ⟨g, 0, none⟩), .agg #[.int .i64 1, .string s, .int .i64 cols, .slice A n c]] w fun e w' => e = .returned (.bool (shR s cols n)) ∧ Below w.heap.size w w' := by
  have hc := blk_cell hg 0
  have hfc0 := blk_cell hf 3
  have hfc1 := blk_cell hf 4
  have hfc2 := blk_cell hf 5
  have hlg := blk_lt hg
  have hlf := blk_lt hf
  have hu113 := Tryd.underlying113
  have hu36 := Tryd.underlying36
  have hu103 := Tryd.underlying103
  simp [formCells, str, fnv] at hc hfc0 hfc1 hfc2
  clear hg hf
  by_cases h0 : s.toList.isEmpty = true
  · by_cases h1 : cols = 0
    · subst h1
      by_cases h2 : n ≤ 200
      · have h2b : decide ((n : Int) ≤ 200) = true := decide_eq_true (by omega)
        have HF : Aside0 (shR s 0 n = true) := ⟨by unfold shR; simp [h0]; omega⟩
        go_enter Tryd.func119, Tryd.ntmps119
        go_wp2
        go_region
        go_wp2
        go_ret
        exact ⟨by rw [HF.out]; rfl, below_drew1 (below_alloc (below_alloc (Below.refl _ _) _) _)⟩
      · have h2b : decide ((n : Int) ≤ 200) = false := decide_eq_false (by omega)
        have HF : Aside0 (shR s 0 n = false) := ⟨by unfold shR; simp [h0]; omega⟩
        go_enter Tryd.func119, Tryd.ntmps119
        go_wp2
        go_region
        go_wp2
        go_ret
        exact ⟨by rw [HF.out]; rfl, below_drew1 (below_alloc (below_alloc (Below.refl _ _) _) _)⟩
    · have h1b : (cols == 0) = false := by simpa using h1
      have HF : Aside0 (shR s cols n = false) := ⟨by unfold shR; simp [h1]⟩
      go_enter Tryd.func119, Tryd.ntmps119
      go_wp2
      go_region
      go_wp2
      go_ret
      exact ⟨by rw [HF.out]; rfl, below_drew1 (below_alloc (below_alloc (Below.refl _ _) _) _)⟩
  · replace h0 : s.toList.isEmpty = false := by simpa using h0
    have HF : Aside0 (shR s cols n = false) := ⟨by unfold shR; simp [h0]⟩
    go_enter Tryd.func119, Tryd.ntmps119
    go_wp2
    go_region
    go_wp2
    go_ret
    exact ⟨by rw [HF.out]; rfl, below_drew1 (below_alloc (below_alloc (Below.refl _ _) _) _)⟩
set_option maxHeartbeats 4000000 in
set_option maxRecDepth 100000 in
theorem shape12 (s : ByteArray) (cols : Int) (A : Option Addr) (n c g gf : Nat) (left : Int) (w : World) (hn : n ≤ 9223372036854775807)
    (hg : w.heap[g]? = some (.cells #[.slice (some ⟨gf, 0, none⟩) 13 13, .int .i64 left] 103 (0, 0))) (hf : w.heap[gf]? = some (.cells formCells 113 (0, 0))) :
    Calls Tryd.prog 119 #[.pointer (some ⟨g, 0, none⟩), .agg #[.int .i64 12, .string s, .int .i64 cols, .slice A n c]] w fun e w' => e = .returned (.bool (shM s cols n)) ∧ Below w.heap.size w w' := by
  have hc := blk_cell hg 0
  have hfc0 := blk_cell hf 36
  have hfc1 := blk_cell hf 37
  have hfc2 := blk_cell hf 38
  have hlg := blk_lt hg
  have hlf := blk_lt hf
  have hu113 := Tryd.underlying113
  have hu36 := Tryd.underlying36
  have hu103 := Tryd.underlying103
  simp [formCells, str, fnv] at hc hfc0 hfc1 hfc2
  clear hg hf
  have END : ∀ {W : World}, Below w.heap.size w ((w.alloc (.cells #[.int .i64 12, .string s, .int .i64 cols, .slice A n c] 36)).alloc (.cells #[.string ⟨#[109, 97, 116, 114, 105, 120]⟩, .func (.func 113) #[] #[], .int .i64 (-1)] 113)).drew := fun {_} => below_drew1 (below_alloc (below_alloc (Below.refl _ _) _) _)
  by_cases h0 : s.toList.isEmpty = true
  · by_cases h1 : 1 ≤ cols
    · by_cases h2 : cols ≤ 16
      · by_cases h3 : 1 ≤ n
        · by_cases h4 : n ≤ 256
          · by_cases h5 : (n : Int) % cols = 0
            · have h5b : ((n : Int) % cols == 0) = true := by simpa using h5
              have H5 := Aside0.mk h5
              clear h5
              have HF : Aside0 (shM s cols n = true) := ⟨by unfold shM; simp [h0, h1, h2, h3, h4, h5b]⟩
              go_enter Tryd.func119, Tryd.ntmps119
              go_wp2
              go_region
              go_wp2
              go_ret
              exact ⟨by rw [HF.out]; rfl, END (W := w)⟩
            · have h5b : ((n : Int) % cols == 0) = false := by simpa using h5
              clear h5
              have HF : Aside0 (shM s cols n = false) := ⟨by unfold shM; simp [h5b]⟩
              go_enter Tryd.func119, Tryd.ntmps119
              go_wp2
              go_region
              go_wp2
              go_ret
              exact ⟨by rw [HF.out]; rfl, END (W := w)⟩
          · have HF : Aside0 (shM s cols n = false) := ⟨by unfold shM; rw [decide_eq_false h4]; simp⟩
            go_enter Tryd.func119, Tryd.ntmps119
            go_wp2
            go_region
            go_wp2
            go_ret
            exact ⟨by rw [HF.out]; rfl, END (W := w)⟩
        · have HF : Aside0 (shM s cols n = false) := ⟨by unfold shM; rw [decide_eq_false h3]; simp⟩
          go_enter Tryd.func119, Tryd.ntmps119
          go_wp2
          go_region
          go_wp2
          go_ret
          exact ⟨by rw [HF.out]; rfl, END (W := w)⟩
      · have HF : Aside0 (shM s cols n = false) := ⟨by unfold shM; rw [decide_eq_false h2]; simp⟩
        go_enter Tryd.func119, Tryd.ntmps119
        go_wp2
        go_region
        go_wp2
        go_ret
        exact ⟨by rw [HF.out]; rfl, END (W := w)⟩
    · have HF : Aside0 (shM s cols n = false) := ⟨by unfold shM; rw [decide_eq_false h1]; simp⟩
      go_enter Tryd.func119, Tryd.ntmps119
      go_wp2
      go_region
      go_wp2
      go_ret
      exact ⟨by rw [HF.out]; rfl, END (W := w)⟩
  · replace h0 : s.toList.isEmpty = false := by simpa using h0
    have H0 := Aside0.mk h0
    have HF : Aside0 (shM s cols n = false) := ⟨by unfold shM; simp [h0]⟩
    go_enter Tryd.func119, Tryd.ntmps119
    go_wp2
    go_region
    go_wp2
    go_ret
    exact ⟨by rw [HF.out]; rfl, END (W := w)⟩
end Go.Proofs.YtagkhoeidjlahaaDoor.G
namespace Go.Proofs.YtagkhoeidjlahaaDoor.G
open Go.RowKit Go.Proofs.YtagkhoeidjlahaaDoorW.PrintWords Go.Proofs.YtagkhoeidjlahaaDoorW.PrintLast Go.Proofs.YtagkhoeidjlahaaDoorW.PrintMore
attribute [local go_sem] max2_int min2_int max_two min_two max_three min_three max_four min_four
set_option linter.unusedVariables false
set_option linter.unusedSimpArgs false
set_option maxHeartbeats 4000000 in
set_option maxRecDepth 100000 in
theorem shape2 (s : ByteArray) (cols : Int) (A : Option Addr) (n c g gf : Nat) (left : Int) (b : Bool) (w : World) (hn : n ≤ 9223372036854775807)
    (hg : w.heap[g]? = some (.cells #[.slice (some ⟨gf, 0, none⟩) 13 13, .int .i64 left] 103 (0, 0))) (hf : w.heap[gf]? = some (.cells formCells 113 (0, 0)))
    (ht : ∀ W, Calls Tryd.prog 114 #[.string s] W fun e W' => e = .returned (.bool b) ∧ Below W.heap.size W W') :
    Calls Tryd.prog 119 #[.pointer (some ⟨g, 0, none⟩), .agg #[.int .i64 2, .string s, .int .i64 cols, .slice A n c]] w fun e w' => e = .returned (.bool (shT b cols n 0)) ∧ Below w.heap.size w w' := by
  have hc := blk_cell hg 0
  have hfc0 := blk_cell hf 6
  have hfc1 := blk_cell hf 7
  have hfc2 := blk_cell hf 8
  have hlg := blk_lt hg
  have hlf := blk_lt hf
  have hu113 := Tryd.underlying113
  have hu36 := Tryd.underlying36
  have hu103 := Tryd.underlying103
  simp [formCells, str, fnv] at hc hfc0 hfc1 hfc2
  have HT := Aside0.mk ht
  clear hg hf ht

  have hfin : ∀ w', Below ((w.alloc (.cells #[.int .i64 2, .string s, .int .i64 cols, .slice A n c] 36)).alloc (.cells #[.string ⟨#[115, 121, 109]⟩, .func (.func 114) #[] #[], .int .i64 0] 113)).drew.heap.size ((w.alloc (.cells #[.int .i64 2, .string s, .int .i64 cols, .slice A n c] 36)).alloc (.cells #[.string ⟨#[115, 121, 109]⟩, .func (.func 114) #[] #[], .int .i64 0] 113)).drew w' → Below w.heap.size w w' := fun w' hb => below_step (below_drew1 (below_alloc (below_alloc (Below.refl _ _) _) _)) hb
  have HFIN := Aside0.mk hfin
  clear hfin
  cases b with
  | false =>
    have HF : Aside0 (shT false cols n 0 = false) := ⟨by rfl⟩
    go_enter Tryd.func119, Tryd.ntmps119
    go_wp2
    go_region
    go_wp2_with (go_at_call 114; refine (HT.out _).mono ?_; rintro e w' ⟨rfl, hb⟩; have HB := Aside0.mk (HFIN.out _ hb); clear hb)
    go_ret
    exact ⟨by rw [HF.out]; rfl, HB.out⟩
  | true =>
    by_cases h1 : cols = 0
    · subst h1
      by_cases h2 : n = 0
      · subst h2
        have HF : Aside0 (shT true 0 0 0 = true) := ⟨by rfl⟩
        go_enter Tryd.func119, Tryd.ntmps119
        go_wp2
        go_region
        go_wp2_with (go_at_call 114; refine (HT.out _).mono ?_; rintro e w' ⟨rfl, hb⟩; have b1 := blk_below (blk_drew (blk_alloc (blk_new w _) _)) hb; have b2 := blk_below (blk_drew (blk_new (w.alloc _) _)) hb; have q2 := blk_cell b1 2; have q3 := blk_cell b1 3; have q4 := blk_cell b2 2; have HB := Aside0.mk (HFIN.out _ hb); clear hb b1 b2; simp at q2 q3 q4)
        go_ret
        exact ⟨by rw [HF.out]; rfl, HB.out⟩
      · have h2b : ((n : Int) == 0) = false := by simp; omega
        have HF : Aside0 (shT true 0 n 0 = false) := ⟨by unfold shT; simp [h2]⟩
        go_enter Tryd.func119, Tryd.ntmps119
        go_wp2
        go_region
        go_wp2_with (go_at_call 114; refine (HT.out _).mono ?_; rintro e w' ⟨rfl, hb⟩; have b1 := blk_below (blk_drew (blk_alloc (blk_new w _) _)) hb; have b2 := blk_below (blk_drew (blk_new (w.alloc _) _)) hb; have q2 := blk_cell b1 2; have q3 := blk_cell b1 3; have q4 := blk_cell b2 2; have HB := Aside0.mk (HFIN.out _ hb); clear hb b1 b2; simp at q2 q3 q4)
        go_ret
        exact ⟨by rw [HF.out]; rfl, HB.out⟩
    · have h1b : (cols == 0) = false := by simpa using h1
      have HF : Aside0 (shT true cols n 0 = false) := ⟨by unfold shT; simp [h1]⟩
      go_enter Tryd.func119, Tryd.ntmps119
      go_wp2
      go_region
      go_wp2_with (go_at_call 114; refine (HT.out _).mono ?_; rintro e w' ⟨rfl, hb⟩; have b1 := blk_below (blk_drew (blk_alloc (blk_new w _) _)) hb; have b2 := blk_below (blk_drew (blk_new (w.alloc _) _)) hb; have q2 := blk_cell b1 2; have q3 := blk_cell b1 3; have q4 := blk_cell b2 2; have HB := Aside0.mk (HFIN.out _ hb); clear hb b1 b2; simp at q2 q3 q4)
      go_ret
      exact ⟨by rw [HF.out]; rfl, HB.out⟩
set_option maxHeartbeats 4000000 in
set_option maxRecDepth 100000 in
theorem shape3 (s : ByteArray) (cols : Int) (A : Option Addr) (n c g gf : Nat) (left : Int) (b : Bool) (w : World) (hn : n ≤ 9223372036854775807)
    (hg : w.heap[g]? = some (.cells #[.slice (some ⟨gf, 0, none⟩) 13 13, .int .i64 left] 103 (0, 0))) (hf : w.heap[gf]? = some (.cells formCells 113 (0, 0)))
    (ht : ∀ W, Calls Tryd.prog 115 #[.string s] W fun e W' => e = .returned (.bool b) ∧ Below W.heap.size W W') :
    Calls Tryd.prog 119 #[.pointer (some ⟨g, 0, none⟩), .agg #[.int .i64 3, .string s, .int .i64 cols, .slice A n c]] w fun e w' => e = .returned (.bool (shT b cols n 0)) ∧ Below w.heap.size w w' := by
  have hc := blk_cell hg 0
  have hfc0 := blk_cell hf 9
  have hfc1 := blk_cell hf 10
  have hfc2 := blk_cell hf 11
  have hlg := blk_lt hg
  have hlf := blk_lt hf
  have hu113 := Tryd.underlying113
  have hu36 := Tryd.underlying36
  have hu103 := Tryd.underlying103
  simp [formCells, str, fnv] at hc hfc0 hfc1 hfc2
  have HT := Aside0.mk ht
  clear hg hf ht

  have hfin : ∀ w', Below ((w.alloc (.cells #[.int .i64 3, .string s, .int .i64 cols, .slice A n c] 36)).alloc (.cells #[.string ⟨#[110, 117, 109]⟩, .func (.func 115) #[] #[], .int .i64 0] 113)).drew.heap.size ((w.alloc (.cells #[.int .i64 3, .string s, .int .i64 cols, .slice A n c] 36)).alloc (.cells #[.string ⟨#[110, 117, 109]⟩, .func (.func 115) #[] #[], .int .i64 0] 113)).drew w' → Below w.heap.size w w' := fun w' hb => below_step (below_drew1 (below_alloc (below_alloc (Below.refl _ _) _) _)) hb
  have HFIN := Aside0.mk hfin
  clear hfin
  cases b with
  | false =>
    have HF : Aside0 (shT false cols n 0 = false) := ⟨by rfl⟩
    go_enter Tryd.func119, Tryd.ntmps119
    go_wp2
    go_region
    go_wp2_with (go_at_call 115; refine (HT.out _).mono ?_; rintro e w' ⟨rfl, hb⟩; have HB := Aside0.mk (HFIN.out _ hb); clear hb)
    go_ret
    exact ⟨by rw [HF.out]; rfl, HB.out⟩
  | true =>
    by_cases h1 : cols = 0
    · subst h1
      by_cases h2 : n = 0
      · subst h2
        have HF : Aside0 (shT true 0 0 0 = true) := ⟨by rfl⟩
        go_enter Tryd.func119, Tryd.ntmps119
        go_wp2
        go_region
        go_wp2_with (go_at_call 115; refine (HT.out _).mono ?_; rintro e w' ⟨rfl, hb⟩; have b1 := blk_below (blk_drew (blk_alloc (blk_new w _) _)) hb; have b2 := blk_below (blk_drew (blk_new (w.alloc _) _)) hb; have q2 := blk_cell b1 2; have q3 := blk_cell b1 3; have q4 := blk_cell b2 2; have HB := Aside0.mk (HFIN.out _ hb); clear hb b1 b2; simp at q2 q3 q4)
        go_ret
        exact ⟨by rw [HF.out]; rfl, HB.out⟩
      · have h2b : ((n : Int) == 0) = false := by simp; omega
        have HF : Aside0 (shT true 0 n 0 = false) := ⟨by unfold shT; simp [h2]⟩
        go_enter Tryd.func119, Tryd.ntmps119
        go_wp2
        go_region
        go_wp2_with (go_at_call 115; refine (HT.out _).mono ?_; rintro e w' ⟨rfl, hb⟩; have b1 := blk_below (blk_drew (blk_alloc (blk_new w _) _)) hb; have b2 := blk_below (blk_drew (blk_new (w.alloc _) _)) hb; have q2 := blk_cell b1 2; have q3 := blk_cell b1 3; have q4 := blk_cell b2 2; have HB := Aside0.mk (HFIN.out _ hb); clear hb b1 b2; simp at q2 q3 q4)
        go_ret
        exact ⟨by rw [HF.out]; rfl, HB.out⟩
    · have h1b : (cols == 0) = false := by simpa using h1
      have HF : Aside0 (shT true cols n 0 = false) := ⟨by unfold shT; simp [h1]⟩
      go_enter Tryd.func119, Tryd.ntmps119
      go_wp2
      go_region
      go_wp2_with (go_at_call 115; refine (HT.out _).mono ?_; rintro e w' ⟨rfl, hb⟩; have b1 := blk_below (blk_drew (blk_alloc (blk_new w _) _)) hb; have b2 := blk_below (blk_drew (blk_new (w.alloc _) _)) hb; have q2 := blk_cell b1 2; have q3 := blk_cell b1 3; have q4 := blk_cell b2 2; have HB := Aside0.mk (HFIN.out _ hb); clear hb b1 b2; simp at q2 q3 q4)
      go_ret
      exact ⟨by rw [HF.out]; rfl, HB.out⟩
set_option maxHeartbeats 4000000 in
set_option maxRecDepth 100000 in
theorem shape4 (s : ByteArray) (cols : Int) (A : Option Addr) (n c g gf : Nat) (left : Int) (b : Bool) (w : World) (hn : n ≤ 9223372036854775807)
    (hg : w.heap[g]? = some (.cells #[.slice (some ⟨gf, 0, none⟩) 13 13, .int .i64 left] 103 (0, 0))) (hf : w.heap[gf]? = some (.cells formCells 113 (0, 0)))
    (ht : ∀ W, Calls Tryd.prog 116 #[.string s] W fun e W' => e = .returned (.bool b) ∧ Below W.heap.size W W') :
    Calls Tryd.prog 119 #[.pointer (some ⟨g, 0, none⟩), .agg #[.int .i64 4, .string s, .int .i64 cols, .slice A n c]] w fun e w' => e = .returned (.bool (shT b cols n 0)) ∧ Below w.heap.size w w' := by
  have hc := blk_cell hg 0
  have hfc0 := blk_cell hf 12
  have hfc1 := blk_cell hf 13
  have hfc2 := blk_cell hf 14
  have hlg := blk_lt hg
  have hlf := blk_lt hf
  have hu113 := Tryd.underlying113
  have hu36 := Tryd.underlying36
  have hu103 := Tryd.underlying103
  simp [formCells, str, fnv] at hc hfc0 hfc1 hfc2
  have HT := Aside0.mk ht
  clear hg hf ht

  have hfin : ∀ w', Below ((w.alloc (.cells #[.int .i64 4, .string s, .int .i64 cols, .slice A n c] 36)).alloc (.cells #[.string ⟨#[116, 101, 120, 116]⟩, .func (.func 116) #[] #[], .int .i64 0] 113)).drew.heap.size ((w.alloc (.cells #[.int .i64 4, .string s, .int .i64 cols, .slice A n c] 36)).alloc (.cells #[.string ⟨#[116, 101, 120, 116]⟩, .func (.func 116) #[] #[], .int .i64 0] 113)).drew w' → Below w.heap.size w w' := fun w' hb => below_step (below_drew1 (below_alloc (below_alloc (Below.refl _ _) _) _)) hb
  have HFIN := Aside0.mk hfin
  clear hfin
  cases b with
  | false =>
    have HF : Aside0 (shT false cols n 0 = false) := ⟨by rfl⟩
    go_enter Tryd.func119, Tryd.ntmps119
    go_wp2
    go_region
    go_wp2_with (go_at_call 116; refine (HT.out _).mono ?_; rintro e w' ⟨rfl, hb⟩; have HB := Aside0.mk (HFIN.out _ hb); clear hb)
    go_ret
    exact ⟨by rw [HF.out]; rfl, HB.out⟩
  | true =>
    by_cases h1 : cols = 0
    · subst h1
      by_cases h2 : n = 0
      · subst h2
        have HF : Aside0 (shT true 0 0 0 = true) := ⟨by rfl⟩
        go_enter Tryd.func119, Tryd.ntmps119
        go_wp2
        go_region
        go_wp2_with (go_at_call 116; refine (HT.out _).mono ?_; rintro e w' ⟨rfl, hb⟩; have b1 := blk_below (blk_drew (blk_alloc (blk_new w _) _)) hb; have b2 := blk_below (blk_drew (blk_new (w.alloc _) _)) hb; have q2 := blk_cell b1 2; have q3 := blk_cell b1 3; have q4 := blk_cell b2 2; have HB := Aside0.mk (HFIN.out _ hb); clear hb b1 b2; simp at q2 q3 q4)
        go_ret
        exact ⟨by rw [HF.out]; rfl, HB.out⟩
      · have h2b : ((n : Int) == 0) = false := by simp; omega
        have HF : Aside0 (shT true 0 n 0 = false) := ⟨by unfold shT; simp [h2]⟩
        go_enter Tryd.func119, Tryd.ntmps119
        go_wp2
        go_region
        go_wp2_with (go_at_call 116; refine (HT.out _).mono ?_; rintro e w' ⟨rfl, hb⟩; have b1 := blk_below (blk_drew (blk_alloc (blk_new w _) _)) hb; have b2 := blk_below (blk_drew (blk_new (w.alloc _) _)) hb; have q2 := blk_cell b1 2; have q3 := blk_cell b1 3; have q4 := blk_cell b2 2; have HB := Aside0.mk (HFIN.out _ hb); clear hb b1 b2; simp at q2 q3 q4)
        go_ret
        exact ⟨by rw [HF.out]; rfl, HB.out⟩
    · have h1b : (cols == 0) = false := by simpa using h1
      have HF : Aside0 (shT true cols n 0 = false) := ⟨by unfold shT; simp [h1]⟩
      go_enter Tryd.func119, Tryd.ntmps119
      go_wp2
      go_region
      go_wp2_with (go_at_call 116; refine (HT.out _).mono ?_; rintro e w' ⟨rfl, hb⟩; have b1 := blk_below (blk_drew (blk_alloc (blk_new w _) _)) hb; have b2 := blk_below (blk_drew (blk_new (w.alloc _) _)) hb; have q2 := blk_cell b1 2; have q3 := blk_cell b1 3; have q4 := blk_cell b2 2; have HB := Aside0.mk (HFIN.out _ hb); clear hb b1 b2; simp at q2 q3 q4)
      go_ret
      exact ⟨by rw [HF.out]; rfl, HB.out⟩
end Go.Proofs.YtagkhoeidjlahaaDoor.G
namespace Go.Proofs.YtagkhoeidjlahaaDoor.G
open Go.RowKit Go.Proofs.YtagkhoeidjlahaaDoorW.PrintWords Go.Proofs.YtagkhoeidjlahaaDoorW.PrintLast Go.Proofs.YtagkhoeidjlahaaDoorW.PrintMore
attribute [local go_sem] max2_int min2_int max_two min_two max_three min_three max_four min_four
set_option linter.unusedVariables false
set_option linter.unusedSimpArgs false
set_option maxHeartbeats 4000000 in
set_option maxRecDepth 100000 in
theorem shape5 (s : ByteArray) (cols : Int) (A : Option Addr) (n c g gf : Nat) (left : Int) (b : Bool) (w : World) (hn : n ≤ 9223372036854775807)
    (hg : w.heap[g]? = some (.cells #[.slice (some ⟨gf, 0, none⟩) 13 13, .int .i64 left] 103 (0, 0))) (hf : w.heap[gf]? = some (.cells formCells 113 (0, 0)))
    (ht : ∀ W, Calls Tryd.prog 113 #[.string s] W fun e W' => e = .returned (.bool b) ∧ Below W.heap.size W W') :
    Calls Tryd.prog 119 #[.pointer (some ⟨g, 0, none⟩), .agg #[.int .i64 5, .string s, .int .i64 cols, .slice A n c]] w fun e w' => e = .returned (.bool (shT b cols n 2)) ∧ Below w.heap.size w w' := by
  have hc := blk_cell hg 0
  have hfc0 := blk_cell hf 15
  have hfc1 := blk_cell hf 16
  have hfc2 := blk_cell hf 17
  have hlg := blk_lt hg
  have hlf := blk_lt hf
  have hu113 := Tryd.underlying113
  have hu36 := Tryd.underlying36
  have hu103 := Tryd.underlying103
  simp [formCells, str, fnv] at hc hfc0 hfc1 hfc2
  have HT := Aside0.mk ht
  clear hg hf ht

  have hfin : ∀ w', Below ((w.alloc (.cells #[.int .i64 5, .string s, .int .i64 cols, .slice A n c] 36)).alloc (.cells #[.string ⟨#[102, 114, 97, 99]⟩, .func (.func 113) #[] #[], .int .i64 2] 113)).drew.heap.size ((w.alloc (.cells #[.int .i64 5, .string s, .int .i64 cols, .slice A n c] 36)).alloc (.cells #[.string ⟨#[102, 114, 97, 99]⟩, .func (.func 113) #[] #[], .int .i64 2] 113)).drew w' → Below w.heap.size w w' := fun w' hb => below_step (below_drew1 (below_alloc (below_alloc (Below.refl _ _) _) _)) hb
  have HFIN := Aside0.mk hfin
  clear hfin
  cases b with
  | false =>
    have HF : Aside0 (shT false cols n 2 = false) := ⟨by rfl⟩
    go_enter Tryd.func119, Tryd.ntmps119
    go_wp2
    go_region
    go_wp2_with (go_at_call 113; refine (HT.out _).mono ?_; rintro e w' ⟨rfl, hb⟩; have HB := Aside0.mk (HFIN.out _ hb); clear hb)
    go_ret
    exact ⟨by rw [HF.out]; rfl, HB.out⟩
  | true =>
    by_cases h1 : cols = 0
    · subst h1
      by_cases h2 : n = 2
      · subst h2
        have HF : Aside0 (shT true 0 2 2 = true) := ⟨by rfl⟩
        go_enter Tryd.func119, Tryd.ntmps119
        go_wp2
        go_region
        go_wp2_with (go_at_call 113; refine (HT.out _).mono ?_; rintro e w' ⟨rfl, hb⟩; have b1 := blk_below (blk_drew (blk_alloc (blk_new w _) _)) hb; have b2 := blk_below (blk_drew (blk_new (w.alloc _) _)) hb; have q2 := blk_cell b1 2; have q3 := blk_cell b1 3; have q4 := blk_cell b2 2; have HB := Aside0.mk (HFIN.out _ hb); clear hb b1 b2; simp at q2 q3 q4)
        go_ret
        exact ⟨by rw [HF.out]; rfl, HB.out⟩
      · have h2b : ((n : Int) == 2) = false := by simp; omega
        have HF : Aside0 (shT true 0 n 2 = false) := ⟨by unfold shT; simp [h2]⟩
        go_enter Tryd.func119, Tryd.ntmps119
        go_wp2
        go_region
        go_wp2_with (go_at_call 113; refine (HT.out _).mono ?_; rintro e w' ⟨rfl, hb⟩; have b1 := blk_below (blk_drew (blk_alloc (blk_new w _) _)) hb; have b2 := blk_below (blk_drew (blk_new (w.alloc _) _)) hb; have q2 := blk_cell b1 2; have q3 := blk_cell b1 3; have q4 := blk_cell b2 2; have HB := Aside0.mk (HFIN.out _ hb); clear hb b1 b2; simp at q2 q3 q4)
        go_ret
        exact ⟨by rw [HF.out]; rfl, HB.out⟩
    · have h1b : (cols == 0) = false := by simpa using h1
      have HF : Aside0 (shT true cols n 2 = false) := ⟨by unfold shT; simp [h1]⟩
      go_enter Tryd.func119, Tryd.ntmps119
      go_wp2
      go_region
      go_wp2_with (go_at_call 113; refine (HT.out _).mono ?_; rintro e w' ⟨rfl, hb⟩; have b1 := blk_below (blk_drew (blk_alloc (blk_new w _) _)) hb; have b2 := blk_below (blk_drew (blk_new (w.alloc _) _)) hb; have q2 := blk_cell b1 2; have q3 := blk_cell b1 3; have q4 := blk_cell b2 2; have HB := Aside0.mk (HFIN.out _ hb); clear hb b1 b2; simp at q2 q3 q4)
      go_ret
      exact ⟨by rw [HF.out]; rfl, HB.out⟩
set_option maxHeartbeats 4000000 in
set_option maxRecDepth 100000 in
theorem shape6 (s : ByteArray) (cols : Int) (A : Option Addr) (n c g gf : Nat) (left : Int) (b : Bool) (w : World) (hn : n ≤ 9223372036854775807)
    (hg : w.heap[g]? = some (.cells #[.slice (some ⟨gf, 0, none⟩) 13 13, .int .i64 left] 103 (0, 0))) (hf : w.heap[gf]? = some (.cells formCells 113 (0, 0)))
    (ht : ∀ W, Calls Tryd.prog 113 #[.string s] W fun e W' => e = .returned (.bool b) ∧ Below W.heap.size W W') :
    Calls Tryd.prog 119 #[.pointer (some ⟨g, 0, none⟩), .agg #[.int .i64 6, .string s, .int .i64 cols, .slice A n c]] w fun e w' => e = .returned (.bool (shT b cols n 2)) ∧ Below w.heap.size w w' := by
  have hc := blk_cell hg 0
  have hfc0 := blk_cell hf 18
  have hfc1 := blk_cell hf 19
  have hfc2 := blk_cell hf 20
  have hlg := blk_lt hg
  have hlf := blk_lt hf
  have hu113 := Tryd.underlying113
  have hu36 := Tryd.underlying36
  have hu103 := Tryd.underlying103
  simp [formCells, str, fnv] at hc hfc0 hfc1 hfc2
  have HT := Aside0.mk ht
  clear hg hf ht

  have hfin : ∀ w', Below ((w.alloc (.cells #[.int .i64 6, .string s, .int .i64 cols, .slice A n c] 36)).alloc (.cells #[.string ⟨#[114, 111, 111, 116]⟩, .func (.func 113) #[] #[], .int .i64 2] 113)).drew.heap.size ((w.alloc (.cells #[.int .i64 6, .string s, .int .i64 cols, .slice A n c] 36)).alloc (.cells #[.string ⟨#[114, 111, 111, 116]⟩, .func (.func 113) #[] #[], .int .i64 2] 113)).drew w' → Below w.heap.size w w' := fun w' hb => below_step (below_drew1 (below_alloc (below_alloc (Below.refl _ _) _) _)) hb
  have HFIN := Aside0.mk hfin
  clear hfin
  cases b with
  | false =>
    have HF : Aside0 (shT false cols n 2 = false) := ⟨by rfl⟩
    go_enter Tryd.func119, Tryd.ntmps119
    go_wp2
    go_region
    go_wp2_with (go_at_call 113; refine (HT.out _).mono ?_; rintro e w' ⟨rfl, hb⟩; have HB := Aside0.mk (HFIN.out _ hb); clear hb)
    go_ret
    exact ⟨by rw [HF.out]; rfl, HB.out⟩
  | true =>
    by_cases h1 : cols = 0
    · subst h1
      by_cases h2 : n = 2
      · subst h2
        have HF : Aside0 (shT true 0 2 2 = true) := ⟨by rfl⟩
        go_enter Tryd.func119, Tryd.ntmps119
        go_wp2
        go_region
        go_wp2_with (go_at_call 113; refine (HT.out _).mono ?_; rintro e w' ⟨rfl, hb⟩; have b1 := blk_below (blk_drew (blk_alloc (blk_new w _) _)) hb; have b2 := blk_below (blk_drew (blk_new (w.alloc _) _)) hb; have q2 := blk_cell b1 2; have q3 := blk_cell b1 3; have q4 := blk_cell b2 2; have HB := Aside0.mk (HFIN.out _ hb); clear hb b1 b2; simp at q2 q3 q4)
        go_ret
        exact ⟨by rw [HF.out]; rfl, HB.out⟩
      · have h2b : ((n : Int) == 2) = false := by simp; omega
        have HF : Aside0 (shT true 0 n 2 = false) := ⟨by unfold shT; simp [h2]⟩
        go_enter Tryd.func119, Tryd.ntmps119
        go_wp2
        go_region
        go_wp2_with (go_at_call 113; refine (HT.out _).mono ?_; rintro e w' ⟨rfl, hb⟩; have b1 := blk_below (blk_drew (blk_alloc (blk_new w _) _)) hb; have b2 := blk_below (blk_drew (blk_new (w.alloc _) _)) hb; have q2 := blk_cell b1 2; have q3 := blk_cell b1 3; have q4 := blk_cell b2 2; have HB := Aside0.mk (HFIN.out _ hb); clear hb b1 b2; simp at q2 q3 q4)
        go_ret
        exact ⟨by rw [HF.out]; rfl, HB.out⟩
    · have h1b : (cols == 0) = false := by simpa using h1
      have HF : Aside0 (shT true cols n 2 = false) := ⟨by unfold shT; simp [h1]⟩
      go_enter Tryd.func119, Tryd.ntmps119
      go_wp2
      go_region
      go_wp2_with (go_at_call 113; refine (HT.out _).mono ?_; rintro e w' ⟨rfl, hb⟩; have b1 := blk_below (blk_drew (blk_alloc (blk_new w _) _)) hb; have b2 := blk_below (blk_drew (blk_new (w.alloc _) _)) hb; have q2 := blk_cell b1 2; have q3 := blk_cell b1 3; have q4 := blk_cell b2 2; have HB := Aside0.mk (HFIN.out _ hb); clear hb b1 b2; simp at q2 q3 q4)
      go_ret
      exact ⟨by rw [HF.out]; rfl, HB.out⟩
set_option maxHeartbeats 4000000 in
set_option maxRecDepth 100000 in
theorem shape7 (s : ByteArray) (cols : Int) (A : Option Addr) (n c g gf : Nat) (left : Int) (b : Bool) (w : World) (hn : n ≤ 9223372036854775807)
    (hg : w.heap[g]? = some (.cells #[.slice (some ⟨gf, 0, none⟩) 13 13, .int .i64 left] 103 (0, 0))) (hf : w.heap[gf]? = some (.cells formCells 113 (0, 0)))
    (ht : ∀ W, Calls Tryd.prog 113 #[.string s] W fun e W' => e = .returned (.bool b) ∧ Below W.heap.size W W') :
    Calls Tryd.prog 119 #[.pointer (some ⟨g, 0, none⟩), .agg #[.int .i64 7, .string s, .int .i64 cols, .slice A n c]] w fun e w' => e = .returned (.bool (shT b cols n 2)) ∧ Below w.heap.size w w' := by
  have hc := blk_cell hg 0
  have hfc0 := blk_cell hf 21
  have hfc1 := blk_cell hf 22
  have hfc2 := blk_cell hf 23
  have hlg := blk_lt hg
  have hlf := blk_lt hf
  have hu113 := Tryd.underlying113
  have hu36 := Tryd.underlying36
  have hu103 := Tryd.underlying103
  simp [formCells, str, fnv] at hc hfc0 hfc1 hfc2
  have HT := Aside0.mk ht
  clear hg hf ht

  have hfin : ∀ w', Below ((w.alloc (.cells #[.int .i64 7, .string s, .int .i64 cols, .slice A n c] 36)).alloc (.cells #[.string ⟨#[115, 117, 98]⟩, .func (.func 113) #[] #[], .int .i64 2] 113)).drew.heap.size ((w.alloc (.cells #[.int .i64 7, .string s, .int .i64 cols, .slice A n c] 36)).alloc (.cells #[.string ⟨#[115, 117, 98]⟩, .func (.func 113) #[] #[], .int .i64 2] 113)).drew w' → Below w.heap.size w w' := fun w' hb => below_step (below_drew1 (below_alloc (below_alloc (Below.refl _ _) _) _)) hb
  have HFIN := Aside0.mk hfin
  clear hfin
  cases b with
  | false =>
    have HF : Aside0 (shT false cols n 2 = false) := ⟨by rfl⟩
    go_enter Tryd.func119, Tryd.ntmps119
    go_wp2
    go_region
    go_wp2_with (go_at_call 113; refine (HT.out _).mono ?_; rintro e w' ⟨rfl, hb⟩; have HB := Aside0.mk (HFIN.out _ hb); clear hb)
    go_ret
    exact ⟨by rw [HF.out]; rfl, HB.out⟩
  | true =>
    by_cases h1 : cols = 0
    · subst h1
      by_cases h2 : n = 2
      · subst h2
        have HF : Aside0 (shT true 0 2 2 = true) := ⟨by rfl⟩
        go_enter Tryd.func119, Tryd.ntmps119
        go_wp2
        go_region
        go_wp2_with (go_at_call 113; refine (HT.out _).mono ?_; rintro e w' ⟨rfl, hb⟩; have b1 := blk_below (blk_drew (blk_alloc (blk_new w _) _)) hb; have b2 := blk_below (blk_drew (blk_new (w.alloc _) _)) hb; have q2 := blk_cell b1 2; have q3 := blk_cell b1 3; have q4 := blk_cell b2 2; have HB := Aside0.mk (HFIN.out _ hb); clear hb b1 b2; simp at q2 q3 q4)
        go_ret
        exact ⟨by rw [HF.out]; rfl, HB.out⟩
      · have h2b : ((n : Int) == 2) = false := by simp; omega
        have HF : Aside0 (shT true 0 n 2 = false) := ⟨by unfold shT; simp [h2]⟩
        go_enter Tryd.func119, Tryd.ntmps119
        go_wp2
        go_region
        go_wp2_with (go_at_call 113; refine (HT.out _).mono ?_; rintro e w' ⟨rfl, hb⟩; have b1 := blk_below (blk_drew (blk_alloc (blk_new w _) _)) hb; have b2 := blk_below (blk_drew (blk_new (w.alloc _) _)) hb; have q2 := blk_cell b1 2; have q3 := blk_cell b1 3; have q4 := blk_cell b2 2; have HB := Aside0.mk (HFIN.out _ hb); clear hb b1 b2; simp at q2 q3 q4)
        go_ret
        exact ⟨by rw [HF.out]; rfl, HB.out⟩
    · have h1b : (cols == 0) = false := by simpa using h1
      have HF : Aside0 (shT true cols n 2 = false) := ⟨by unfold shT; simp [h1]⟩
      go_enter Tryd.func119, Tryd.ntmps119
      go_wp2
      go_region
      go_wp2_with (go_at_call 113; refine (HT.out _).mono ?_; rintro e w' ⟨rfl, hb⟩; have b1 := blk_below (blk_drew (blk_alloc (blk_new w _) _)) hb; have b2 := blk_below (blk_drew (blk_new (w.alloc _) _)) hb; have q2 := blk_cell b1 2; have q3 := blk_cell b1 3; have q4 := blk_cell b2 2; have HB := Aside0.mk (HFIN.out _ hb); clear hb b1 b2; simp at q2 q3 q4)
      go_ret
      exact ⟨by rw [HF.out]; rfl, HB.out⟩
end Go.Proofs.YtagkhoeidjlahaaDoor.G
namespace Go.Proofs.YtagkhoeidjlahaaDoor.G
open Go.RowKit Go.Proofs.YtagkhoeidjlahaaDoorW.PrintWords Go.Proofs.YtagkhoeidjlahaaDoorW.PrintLast Go.Proofs.YtagkhoeidjlahaaDoorW.PrintMore
attribute [local go_sem] max2_int min2_int max_two min_two max_three min_three max_four min_four
set_option linter.unusedVariables false
set_option linter.unusedSimpArgs false
set_option maxHeartbeats 4000000 in
set_option maxRecDepth 100000 in
theorem shape10 (s : ByteArray) (cols : Int) (A : Option Addr) (n c g gf : Nat) (left : Int) (b : Bool) (w : World) (hn : n ≤ 9223372036854775807)
    (hg : w.heap[g]? = some (.cells #[.slice (some ⟨gf, 0, none⟩) 13 13, .int .i64 left] 103 (0, 0))) (hf : w.heap[gf]? = some (.cells formCells 113 (0, 0)))
    (ht : ∀ W, Calls Tryd.prog 117 #[.string s] W fun e W' => e = .returned (.bool b) ∧ Below W.heap.size W W') :
    Calls Tryd.prog 119 #[.pointer (some ⟨g, 0, none⟩), .agg #[.int .i64 10, .string s, .int .i64 cols, .slice A n c]] w fun e w' => e = .returned (.bool (shT b cols n 1)) ∧ Below w.heap.size w w' := by
  have hc := blk_cell hg 0
  have hfc0 := blk_cell hf 30
  have hfc1 := blk_cell hf 31
  have hfc2 := blk_cell hf 32
  have hlg := blk_lt hg
  have hlf := blk_lt hf
  have hu113 := Tryd.underlying113
  have hu36 := Tryd.underlying36
  have hu103 := Tryd.underlying103
  simp [formCells, str, fnv] at hc hfc0 hfc1 hfc2
  have HT := Aside0.mk ht
  clear hg hf ht

  have hfin : ∀ w', Below ((w.alloc (.cells #[.int .i64 10, .string s, .int .i64 cols, .slice A n c] 36)).alloc (.cells #[.string ⟨#[97, 99, 99, 101, 110, 116]⟩, .func (.func 117) #[] #[], .int .i64 1] 113)).drew.heap.size ((w.alloc (.cells #[.int .i64 10, .string s, .int .i64 cols, .slice A n c] 36)).alloc (.cells #[.string ⟨#[97, 99, 99, 101, 110, 116]⟩, .func (.func 117) #[] #[], .int .i64 1] 113)).drew w' → Below w.heap.size w w' := fun w' hb => below_step (below_drew1 (below_alloc (below_alloc (Below.refl _ _) _) _)) hb
  have HFIN := Aside0.mk hfin
  clear hfin
  cases b with
  | false =>
    have HF : Aside0 (shT false cols n 1 = false) := ⟨by rfl⟩
    go_enter Tryd.func119, Tryd.ntmps119
    go_wp2
    go_region
    go_wp2_with (go_at_call 117; refine (HT.out _).mono ?_; rintro e w' ⟨rfl, hb⟩; have HB := Aside0.mk (HFIN.out _ hb); clear hb)
    go_ret
    exact ⟨by rw [HF.out]; rfl, HB.out⟩
  | true =>
    by_cases h1 : cols = 0
    · subst h1
      by_cases h2 : n = 1
      · subst h2
        have HF : Aside0 (shT true 0 1 1 = true) := ⟨by rfl⟩
        go_enter Tryd.func119, Tryd.ntmps119
        go_wp2
        go_region
        go_wp2_with (go_at_call 117; refine (HT.out _).mono ?_; rintro e w' ⟨rfl, hb⟩; have b1 := blk_below (blk_drew (blk_alloc (blk_new w _) _)) hb; have b2 := blk_below (blk_drew (blk_new (w.alloc _) _)) hb; have q2 := blk_cell b1 2; have q3 := blk_cell b1 3; have q4 := blk_cell b2 2; have HB := Aside0.mk (HFIN.out _ hb); clear hb b1 b2; simp at q2 q3 q4)
        go_ret
        exact ⟨by rw [HF.out]; rfl, HB.out⟩
      · have h2b : ((n : Int) == 1) = false := by simp; omega
        have HF : Aside0 (shT true 0 n 1 = false) := ⟨by unfold shT; simp [h2]⟩
        go_enter Tryd.func119, Tryd.ntmps119
        go_wp2
        go_region
        go_wp2_with (go_at_call 117; refine (HT.out _).mono ?_; rintro e w' ⟨rfl, hb⟩; have b1 := blk_below (blk_drew (blk_alloc (blk_new w _) _)) hb; have b2 := blk_below (blk_drew (blk_new (w.alloc _) _)) hb; have q2 := blk_cell b1 2; have q3 := blk_cell b1 3; have q4 := blk_cell b2 2; have HB := Aside0.mk (HFIN.out _ hb); clear hb b1 b2; simp at q2 q3 q4)
        go_ret
        exact ⟨by rw [HF.out]; rfl, HB.out⟩
    · have h1b : (cols == 0) = false := by simpa using h1
      have HF : Aside0 (shT true cols n 1 = false) := ⟨by unfold shT; simp [h1]⟩
      go_enter Tryd.func119, Tryd.ntmps119
      go_wp2
      go_region
      go_wp2_with (go_at_call 117; refine (HT.out _).mono ?_; rintro e w' ⟨rfl, hb⟩; have b1 := blk_below (blk_drew (blk_alloc (blk_new w _) _)) hb; have b2 := blk_below (blk_drew (blk_new (w.alloc _) _)) hb; have q2 := blk_cell b1 2; have q3 := blk_cell b1 3; have q4 := blk_cell b2 2; have HB := Aside0.mk (HFIN.out _ hb); clear hb b1 b2; simp at q2 q3 q4)
      go_ret
      exact ⟨by rw [HF.out]; rfl, HB.out⟩
set_option maxHeartbeats 4000000 in
set_option maxRecDepth 100000 in
theorem shape11 (s : ByteArray) (cols : Int) (A : Option Addr) (n c g gf : Nat) (left : Int) (b : Bool) (w : World) (hn : n ≤ 9223372036854775807)
    (hg : w.heap[g]? = some (.cells #[.slice (some ⟨gf, 0, none⟩) 13 13, .int .i64 left] 103 (0, 0))) (hf : w.heap[gf]? = some (.cells formCells 113 (0, 0)))
    (ht : ∀ W, Calls Tryd.prog 118 #[.string s] W fun e W' => e = .returned (.bool b) ∧ Below W.heap.size W W') :
    Calls Tryd.prog 119 #[.pointer (some ⟨g, 0, none⟩), .agg #[.int .i64 11, .string s, .int .i64 cols, .slice A n c]] w fun e w' => e = .returned (.bool (shT b cols n 1)) ∧ Below w.heap.size w w' := by
  have hc := blk_cell hg 0
  have hfc0 := blk_cell hf 33
  have hfc1 := blk_cell hf 34
  have hfc2 := blk_cell hf 35
  have hlg := blk_lt hg
  have hlf := blk_lt hf
  have hu113 := Tryd.underlying113
  have hu36 := Tryd.underlying36
  have hu103 := Tryd.underlying103
  simp [formCells, str, fnv] at hc hfc0 hfc1 hfc2
  have HT := Aside0.mk ht
  clear hg hf ht

  have hfin : ∀ w', Below ((w.alloc (.cells #[.int .i64 11, .string s, .int .i64 cols, .slice A n c] 36)).alloc (.cells #[.string ⟨#[102, 101, 110, 99, 101]⟩, .func (.func 118) #[] #[], .int .i64 1] 113)).drew.heap.size ((w.alloc (.cells #[.int .i64 11, .string s, .int .i64 cols, .slice A n c] 36)).alloc (.cells #[.string ⟨#[102, 101, 110, 99, 101]⟩, .func (.func 118) #[] #[], .int .i64 1] 113)).drew w' → Below w.heap.size w w' := fun w' hb => below_step (below_drew1 (below_alloc (below_alloc (Below.refl _ _) _) _)) hb
  have HFIN := Aside0.mk hfin
  clear hfin
  cases b with
  | false =>
    have HF : Aside0 (shT false cols n 1 = false) := ⟨by rfl⟩
    go_enter Tryd.func119, Tryd.ntmps119
    go_wp2
    go_region
    go_wp2_with (go_at_call 118; refine (HT.out _).mono ?_; rintro e w' ⟨rfl, hb⟩; have HB := Aside0.mk (HFIN.out _ hb); clear hb)
    go_ret
    exact ⟨by rw [HF.out]; rfl, HB.out⟩
  | true =>
    by_cases h1 : cols = 0
    · subst h1
      by_cases h2 : n = 1
      · subst h2
        have HF : Aside0 (shT true 0 1 1 = true) := ⟨by rfl⟩
        go_enter Tryd.func119, Tryd.ntmps119
        go_wp2
        go_region
        go_wp2_with (go_at_call 118; refine (HT.out _).mono ?_; rintro e w' ⟨rfl, hb⟩; have b1 := blk_below (blk_drew (blk_alloc (blk_new w _) _)) hb; have b2 := blk_below (blk_drew (blk_new (w.alloc _) _)) hb; have q2 := blk_cell b1 2; have q3 := blk_cell b1 3; have q4 := blk_cell b2 2; have HB := Aside0.mk (HFIN.out _ hb); clear hb b1 b2; simp at q2 q3 q4)
        go_ret
        exact ⟨by rw [HF.out]; rfl, HB.out⟩
      · have h2b : ((n : Int) == 1) = false := by simp; omega
        have HF : Aside0 (shT true 0 n 1 = false) := ⟨by unfold shT; simp [h2]⟩
        go_enter Tryd.func119, Tryd.ntmps119
        go_wp2
        go_region
        go_wp2_with (go_at_call 118; refine (HT.out _).mono ?_; rintro e w' ⟨rfl, hb⟩; have b1 := blk_below (blk_drew (blk_alloc (blk_new w _) _)) hb; have b2 := blk_below (blk_drew (blk_new (w.alloc _) _)) hb; have q2 := blk_cell b1 2; have q3 := blk_cell b1 3; have q4 := blk_cell b2 2; have HB := Aside0.mk (HFIN.out _ hb); clear hb b1 b2; simp at q2 q3 q4)
        go_ret
        exact ⟨by rw [HF.out]; rfl, HB.out⟩
    · have h1b : (cols == 0) = false := by simpa using h1
      have HF : Aside0 (shT true cols n 1 = false) := ⟨by unfold shT; simp [h1]⟩
      go_enter Tryd.func119, Tryd.ntmps119
      go_wp2
      go_region
      go_wp2_with (go_at_call 118; refine (HT.out _).mono ?_; rintro e w' ⟨rfl, hb⟩; have b1 := blk_below (blk_drew (blk_alloc (blk_new w _) _)) hb; have b2 := blk_below (blk_drew (blk_new (w.alloc _) _)) hb; have q2 := blk_cell b1 2; have q3 := blk_cell b1 3; have q4 := blk_cell b2 2; have HB := Aside0.mk (HFIN.out _ hb); clear hb b1 b2; simp at q2 q3 q4)
      go_ret
      exact ⟨by rw [HF.out]; rfl, HB.out⟩
end Go.Proofs.YtagkhoeidjlahaaDoor.G
namespace Go.Proofs.YtagkhoeidjlahaaDoor.G
open Go.RowKit Go.Proofs.YtagkhoeidjlahaaDoorW.PrintWords Go.Proofs.YtagkhoeidjlahaaDoorW.PrintLast Go.Proofs.YtagkhoeidjlahaaDoorW.PrintMore
attribute [local go_sem] max2_int min2_int max_two min_two max_three min_three max_four min_four
set_option linter.unusedVariables false
set_option linter.unusedSimpArgs false
set_option maxHeartbeats 4000000 in
set_option maxRecDepth 100000 in
theorem shape8 (s : ByteArray) (cols : Int) (A : Option Addr) (n c g gf : Nat) (left : Int) (b : Bool) (w : World) (hn : n ≤ 9223372036854775807)
    (hg : w.heap[g]? = some (.cells #[.slice (some ⟨gf, 0, none⟩) 13 13, .int .i64 left] 103 (0, 0))) (hf : w.heap[gf]? = some (.cells formCells 113 (0, 0)))
    (ht : ∀ W, Calls Tryd.prog 113 #[.string s] W fun e W' => e = .returned (.bool b) ∧ Below W.heap.size W W') :
    Calls Tryd.prog 119 #[.pointer (some ⟨g, 0, none⟩), .agg #[.int .i64 8, .string s, .int .i64 cols, .slice A n c]] w fun e w' => e = .returned (.bool (shT b cols n 2)) ∧ Below w.heap.size w w' := by
  have hc := blk_cell hg 0
  have hfc0 := blk_cell hf 24
  have hfc1 := blk_cell hf 25
  have hfc2 := blk_cell hf 26
  have hlg := blk_lt hg
  have hlf := blk_lt hf
  have hu113 := Tryd.underlying113
  have hu36 := Tryd.underlying36
  have hu103 := Tryd.underlying103
  simp [formCells, str, fnv] at hc hfc0 hfc1 hfc2
  have HT := Aside0.mk ht
  clear hg hf ht

  have hfin : ∀ w', Below ((w.alloc (.cells #[.int .i64 8, .string s, .int .i64 cols, .slice A n c] 36)).alloc (.cells #[.string ⟨#[115, 117, 112]⟩, .func (.func 113) #[] #[], .int .i64 2] 113)).drew.heap.size ((w.alloc (.cells #[.int .i64 8, .string s, .int .i64 cols, .slice A n c] 36)).alloc (.cells #[.string ⟨#[115, 117, 112]⟩, .func (.func 113) #[] #[], .int .i64 2] 113)).drew w' → Below w.heap.size w w' := fun w' hb => below_step (below_drew1 (below_alloc (below_alloc (Below.refl _ _) _) _)) hb
  have HFIN := Aside0.mk hfin
  clear hfin
  cases b with
  | false =>
    have HF : Aside0 (shT false cols n 2 = false) := ⟨by rfl⟩
    go_enter Tryd.func119, Tryd.ntmps119
    go_wp2
    go_region
    go_wp2_with (go_at_call 113; refine (HT.out _).mono ?_; rintro e w' ⟨rfl, hb⟩; have HB := Aside0.mk (HFIN.out _ hb); clear hb)
    go_ret
    exact ⟨by rw [HF.out]; rfl, HB.out⟩
  | true =>
    by_cases h1 : cols = 0
    · subst h1
      by_cases h2 : n = 2
      · subst h2
        have HF : Aside0 (shT true 0 2 2 = true) := ⟨by rfl⟩
        go_enter Tryd.func119, Tryd.ntmps119
        go_wp2
        go_region
        go_wp2_with (go_at_call 113; refine (HT.out _).mono ?_; rintro e w' ⟨rfl, hb⟩; have b1 := blk_below (blk_drew (blk_alloc (blk_new w _) _)) hb; have b2 := blk_below (blk_drew (blk_new (w.alloc _) _)) hb; have q2 := blk_cell b1 2; have q3 := blk_cell b1 3; have q4 := blk_cell b2 2; have HB := Aside0.mk (HFIN.out _ hb); clear hb b1 b2; simp at q2 q3 q4)
        go_ret
        exact ⟨by rw [HF.out]; rfl, HB.out⟩
      · have h2b : ((n : Int) == 2) = false := by simp; omega
        have HF : Aside0 (shT true 0 n 2 = false) := ⟨by unfold shT; simp [h2]⟩
        go_enter Tryd.func119, Tryd.ntmps119
        go_wp2
        go_region
        go_wp2_with (go_at_call 113; refine (HT.out _).mono ?_; rintro e w' ⟨rfl, hb⟩; have b1 := blk_below (blk_drew (blk_alloc (blk_new w _) _)) hb; have b2 := blk_below (blk_drew (blk_new (w.alloc _) _)) hb; have q2 := blk_cell b1 2; have q3 := blk_cell b1 3; have q4 := blk_cell b2 2; have HB := Aside0.mk (HFIN.out _ hb); clear hb b1 b2; simp at q2 q3 q4)
        go_ret
        exact ⟨by rw [HF.out]; rfl, HB.out⟩
    · have h1b : (cols == 0) = false := by simpa using h1
      have HF : Aside0 (shT true cols n 2 = false) := ⟨by unfold shT; simp [h1]⟩
      go_enter Tryd.func119, Tryd.ntmps119
      go_wp2
      go_region
      go_wp2_with (go_at_call 113; refine (HT.out _).mono ?_; rintro e w' ⟨rfl, hb⟩; have b1 := blk_below (blk_drew (blk_alloc (blk_new w _) _)) hb; have b2 := blk_below (blk_drew (blk_new (w.alloc _) _)) hb; have q2 := blk_cell b1 2; have q3 := blk_cell b1 3; have q4 := blk_cell b2 2; have HB := Aside0.mk (HFIN.out _ hb); clear hb b1 b2; simp at q2 q3 q4)
      go_ret
      exact ⟨by rw [HF.out]; rfl, HB.out⟩
set_option maxHeartbeats 4000000 in
set_option maxRecDepth 100000 in
theorem shape9 (s : ByteArray) (cols : Int) (A : Option Addr) (n c g gf : Nat) (left : Int) (b : Bool) (w : World) (hn : n ≤ 9223372036854775807)
    (hg : w.heap[g]? = some (.cells #[.slice (some ⟨gf, 0, none⟩) 13 13, .int .i64 left] 103 (0, 0))) (hf : w.heap[gf]? = some (.cells formCells 113 (0, 0)))
    (ht : ∀ W, Calls Tryd.prog 113 #[.string s] W fun e W' => e = .returned (.bool b) ∧ Below W.heap.size W W') :
    Calls Tryd.prog 119 #[.pointer (some ⟨g, 0, none⟩), .agg #[.int .i64 9, .string s, .int .i64 cols, .slice A n c]] w fun e w' => e = .returned (.bool (shT b cols n 3)) ∧ Below w.heap.size w w' := by
  have hc := blk_cell hg 0
  have hfc0 := blk_cell hf 27
  have hfc1 := blk_cell hf 28
  have hfc2 := blk_cell hf 29
  have hlg := blk_lt hg
  have hlf := blk_lt hf
  have hu113 := Tryd.underlying113
  have hu36 := Tryd.underlying36
  have hu103 := Tryd.underlying103
  simp [formCells, str, fnv] at hc hfc0 hfc1 hfc2
  have HT := Aside0.mk ht
  clear hg hf ht

  have hfin : ∀ w', Below ((w.alloc (.cells #[.int .i64 9, .string s, .int .i64 cols, .slice A n c] 36)).alloc (.cells #[.string ⟨#[98, 111, 116, 104]⟩, .func (.func 113) #[] #[], .int .i64 3] 113)).drew.heap.size ((w.alloc (.cells #[.int .i64 9, .string s, .int .i64 cols, .slice A n c] 36)).alloc (.cells #[.string ⟨#[98, 111, 116, 104]⟩, .func (.func 113) #[] #[], .int .i64 3] 113)).drew w' → Below w.heap.size w w' := fun w' hb => below_step (below_drew1 (below_alloc (below_alloc (Below.refl _ _) _) _)) hb
  have HFIN := Aside0.mk hfin
  clear hfin
  cases b with
  | false =>
    have HF : Aside0 (shT false cols n 3 = false) := ⟨by rfl⟩
    go_enter Tryd.func119, Tryd.ntmps119
    go_wp2
    go_region
    go_wp2_with (go_at_call 113; refine (HT.out _).mono ?_; rintro e w' ⟨rfl, hb⟩; have HB := Aside0.mk (HFIN.out _ hb); clear hb)
    go_ret
    exact ⟨by rw [HF.out]; rfl, HB.out⟩
  | true =>
    by_cases h1 : cols = 0
    · subst h1
      by_cases h2 : n = 3
      · subst h2
        have HF : Aside0 (shT true 0 3 3 = true) := ⟨by rfl⟩
        go_enter Tryd.func119, Tryd.ntmps119
        go_wp2
        go_region
        go_wp2_with (go_at_call 113; refine (HT.out _).mono ?_; rintro e w' ⟨rfl, hb⟩; have b1 := blk_below (blk_drew (blk_alloc (blk_new w _) _)) hb; have b2 := blk_below (blk_drew (blk_new (w.alloc _) _)) hb; have q2 := blk_cell b1 2; have q3 := blk_cell b1 3; have q4 := blk_cell b2 2; have HB := Aside0.mk (HFIN.out _ hb); clear hb b1 b2; simp at q2 q3 q4)
        go_ret
        exact ⟨by rw [HF.out]; rfl, HB.out⟩
      · have h2b : ((n : Int) == 3) = false := by simp; omega
        have HF : Aside0 (shT true 0 n 3 = false) := ⟨by unfold shT; simp [h2]⟩
        go_enter Tryd.func119, Tryd.ntmps119
        go_wp2
        go_region
        go_wp2_with (go_at_call 113; refine (HT.out _).mono ?_; rintro e w' ⟨rfl, hb⟩; have b1 := blk_below (blk_drew (blk_alloc (blk_new w _) _)) hb; have b2 := blk_below (blk_drew (blk_new (w.alloc _) _)) hb; have q2 := blk_cell b1 2; have q3 := blk_cell b1 3; have q4 := blk_cell b2 2; have HB := Aside0.mk (HFIN.out _ hb); clear hb b1 b2; simp at q2 q3 q4)
        go_ret
        exact ⟨by rw [HF.out]; rfl, HB.out⟩
    · have h1b : (cols == 0) = false := by simpa using h1
      have HF : Aside0 (shT true cols n 3 = false) := ⟨by unfold shT; simp [h1]⟩
      go_enter Tryd.func119, Tryd.ntmps119
      go_wp2
      go_region
      go_wp2_with (go_at_call 113; refine (HT.out _).mono ?_; rintro e w' ⟨rfl, hb⟩; have b1 := blk_below (blk_drew (blk_alloc (blk_new w _) _)) hb; have b2 := blk_below (blk_drew (blk_new (w.alloc _) _)) hb; have q2 := blk_cell b1 2; have q3 := blk_cell b1 3; have q4 := blk_cell b2 2; have HB := Aside0.mk (HFIN.out _ hb); clear hb b1 b2; simp at q2 q3 q4)
      go_ret
      exact ⟨by rw [HF.out]; rfl, HB.out⟩
end Go.Proofs.YtagkhoeidjlahaaDoor.G
namespace Go.Proofs.YtagkhoeidjlahaaDoor.G
open Go.RowKit Go.Proofs.YtagkhoeidjlahaaDoorW.PrintWords Go.Proofs.YtagkhoeidjlahaaDoorW.PrintLast Go.Proofs.YtagkhoeidjlahaaDoorW.PrintMore
attribute [local go_sem] max2_int min2_int max_two min_two max_three min_three max_four min_four
set_option linter.unusedVariables false
set_option linter.unusedSimpArgs false
def shapeF (k : Nat) (kd : Int) (s : ByteArray) (cols : Int) (n : Nat) : Option Bool :=
  if kd = 1 then some (shR s cols n) else if kd = 12 then some (shM s cols n)
  else if kd = 2 then (node_Symbol.f k s).bind fun b => some (shT b cols n 0)
  else if kd = 3 then (node_Number.f s).bind fun b => some (shT b cols n 0)
  else if kd = 4 then (node_printable.f k s).bind fun b => some (shT b cols n 0)
  else if kd = 10 then (node_accent.f k s).bind fun b => some (shT b cols n 1)
  else if kd = 11 then (node_fence.f s).bind fun b => some (shT b cols n 1)
  else if kd = 9 then some (shT (s.toList == []) cols n 3)
  else if 5 ≤ kd ∧ kd ≤ 8 then some (shT (s.toList == []) cols n 2)
  else some false
theorem shape_calls (k : Nat) (kd : Int) (s : ByteArray) (cols : Int) (A : Option Addr) (n c g gf : Nat) (left : Int) (b : Bool) (w : World) (hn : n ≤ 9223372036854775807)
    (hg : w.heap[g]? = some (.cells #[.slice (some ⟨gf, 0, none⟩) 13 13, .int .i64 left] 103 (0, 0))) (hf : w.heap[gf]? = some (.cells formCells 113 (0, 0))) (h : shapeF k kd s cols n = some b) :
    Calls Tryd.prog 119 #[.pointer (some ⟨g, 0, none⟩), .agg #[.int .i64 kd, .string s, .int .i64 cols, .slice A n c]] w fun e w' => e = .returned (.bool b) ∧ Below w.heap.size w w' := by
  have he : ∀ W, Calls Tryd.prog 113 #[.string s] W fun e W' => e = .returned (.bool (s.toList == [])) ∧ Below W.heap.size W W' := fun W => (node_empty.calls s _ W rfl).mono fun e W' ⟨h1, h2⟩ => ⟨h1, h2.below⟩
  unfold shapeF at h
  by_cases k1 : kd = 1
  · rw [if_pos k1] at h
    cases h
    subst k1
    exact shape1 s cols A n c g gf left w hn hg hf
  rw [if_neg k1] at h
  by_cases k12 : kd = 12
  · rw [if_pos k12] at h
    cases h
    subst k12
    exact shape12 s cols A n c g gf left w hn hg hf
  rw [if_neg k12] at h
  by_cases k2 : kd = 2
  · rw [if_pos k2] at h
    subst k2
    obtain ⟨t, ht, h⟩ := Option.bind_eq_some_iff.mp h
    cases h
    exact shape2 s cols A n c g gf left t w hn hg hf fun W => node_Symbol.calls k s t W ht
  rw [if_neg k2] at h
  by_cases k3 : kd = 3
  · rw [if_pos k3] at h
    subst k3
    obtain ⟨t, ht, h⟩ := Option.bind_eq_some_iff.mp h
    cases h
    exact shape3 s cols A n c g gf left t w hn hg hf fun W => node_Number.calls s t W ht
  rw [if_neg k3] at h
  by_cases k4 : kd = 4
  · rw [if_pos k4] at h
    subst k4
    obtain ⟨t, ht, h⟩ := Option.bind_eq_some_iff.mp h
    cases h
    exact shape4 s cols A n c g gf left t w hn hg hf fun W => (node_printable.calls k s t W ht).mono fun e W' ⟨h1, h2⟩ => ⟨h1, h2.below⟩
  rw [if_neg k4] at h
  by_cases k10 : kd = 10
  · rw [if_pos k10] at h
    subst k10
    obtain ⟨t, ht, h⟩ := Option.bind_eq_some_iff.mp h
    cases h
    exact shape10 s cols A n c g gf left t w hn hg hf fun W => node_accent.calls k s t W ht
  rw [if_neg k10] at h
  by_cases k11 : kd = 11
  · rw [if_pos k11] at h
    subst k11
    obtain ⟨t, ht, h⟩ := Option.bind_eq_some_iff.mp h
    cases h
    exact shape11 s cols A n c g gf left t w hn hg hf fun W => (node_fence.calls s t W ht).mono fun e W' ⟨h1, h2⟩ => ⟨h1, h2.below⟩
  rw [if_neg k11] at h
  by_cases k9 : kd = 9
  · rw [if_pos k9] at h
    cases h
    subst k9
    exact shape9 s cols A n c g gf left _ w hn hg hf he
  rw [if_neg k9] at h
  by_cases k58 : 5 ≤ kd ∧ kd ≤ 8
  · rw [if_pos k58] at h
    cases h
    have : kd = 5 ∨ kd = 6 ∨ kd = 7 ∨ kd = 8 := by omega
    rcases this with rfl | rfl | rfl | rfl
    · exact shape5 s cols A n c g gf left _ w hn hg hf he
    · exact shape6 s cols A n c g gf left _ w hn hg hf he
    · exact shape7 s cols A n c g gf left _ w hn hg hf he
    · exact shape8 s cols A n c g gf left _ w hn hg hf he
  rw [if_neg k58] at h
  cases h
  exact shapeOut kd s cols A n c g w (by omega)
end Go.Proofs.YtagkhoeidjlahaaDoor.G
namespace Go.Proofs.YtagkhoeidjlahaaDoor.G
open Go.RowKit Go.Proofs.YtagkhoeidjlahaaDoorW.PrintWords Go.Proofs.YtagkhoeidjlahaaDoorW.PrintLast Go.Proofs.YtagkhoeidjlahaaDoorW.PrintMore
attribute [local go_sem] max2_int min2_int max_two min_two max_three min_three max_four min_four
set_option linter.unusedVariables false
set_option linter.unusedSimpArgs false
def chkL (f : Int → S36 → Option (Bool × Int)) (row : Bool) : List S36 → Int → Option (Bool × Int)
  | [], l => some (true, l)
  | y :: ys, l => if (y.f0 == 1) == row then some (false, l) else (f l y).bind fun r => if r.1 = true then chkL f row ys r.2 else some (false, r.2)
def chk (k : Nat) : Nat → Int → S36 → Option (Bool × Int)
  | 0, l, _ => some (false, l - 1)
  | d + 1, l, x => if l - 1 < 0 then some (false, l - 1) else (shapeF k x.f0 x.f1 x.f2 x.f3.length).bind fun b => if b = true then chkL (chk k d) (x.f0 == 1) x.f3 (l - 1) else some (false, l - 1)
theorem chkL_le {f : Int → S36 → Option (Bool × Int)} (hf : ∀ l x l', f l x = some (true, l') → 0 ≤ l' ∧ l' ≤ l) (row : Bool) : ∀ (xs : List S36) (l l' : Int), 0 ≤ l → chkL f row xs l = some (true, l') → 0 ≤ l' ∧ l' ≤ l := by
  intro xs
  induction xs with
  | nil =>
    intro l l' h0 h
    simp [chkL] at h
    omega
  | cons y ys ih =>
    intro l l' h0 h
    rw [chkL] at h
    split at h
    · simp at h
    · obtain ⟨r, hr, h⟩ := Option.bind_eq_some_iff.mp h
      rcases r with ⟨rb, rl⟩
      cases rb with
      | false => simp at h
      | true =>
        simp at h
        have h1 := hf _ _ _ hr
        have h2 := ih _ _ h1.1 h
        omega
theorem chk_le (k : Nat) : ∀ (d : Nat) (l : Int) (x : S36) (l' : Int), chk k d l x = some (true, l') → 0 ≤ l' ∧ l' ≤ l := by
  intro d
  induction d with
  | zero => intro l x l' h; simp [chk] at h
  | succ d ih =>
    intro l x l' h
    rw [chk] at h
    split at h
    · simp at h
    · rename_i hl
      obtain ⟨b, hb, h⟩ := Option.bind_eq_some_iff.mp h
      cases b with
      | false => simp at h
      | true =>
        simp at h
        have := chkL_le ih _ _ _ _ (by omega) h
        omega
set_option maxHeartbeats 4000000 in
set_option maxRecDepth 100000 in
theorem check_calls (k : Nat) (w0 : World) (g gf : Nat) (hg0 : w0.heap.size ≤ g) (hgf0 : w0.heap.size ≤ gf) (hne : gf ≠ g) : ∀ (d : Nat), d ≤ 24 → ∀ (x : S36) (A : Option Addr) (c : Nat) (left : Int) (b : Bool) (l' : Int) (w : World),
    Kd.C k36 w0 A x.f3.length x.f3 → x.f3.length ≤ c → 0 ≤ left → left ≤ 1000 → Below w0.heap.size w0 w → w.heap[g]? = some (.cells #[.slice (some ⟨gf, 0, none⟩) 13 13, .int .i64 left] 103 (0, 0)) → w.heap[gf]? = some (.cells formCells 113 (0, 0)) → chk k d left x = some (b, l') →
    Calls Tryd.prog 100 #[.pointer (some ⟨g, 0, none⟩), .agg #[.int .i64 x.f0, .string x.f1, .int .i64 x.f2, .slice A x.f3.length c], .int .i64 d] w fun e w' => e = .returned (.bool b) ∧ Below w0.heap.size w0 w' ∧ w'.heap[g]? = some (.cells #[.slice (some ⟨gf, 0, none⟩) 13 13, .int .i64 l'] 103 (0, 0)) ∧ KeepBut w w' g none := by
  intro d
  induction d with
  | zero =>
    intro hd x A c left b l' w hr hc hl0 hl1 hB hg hf h
    simp only [chk, Option.some.injEq, Prod.mk.injEq] at h
    obtain ⟨rfl, rfl⟩ := h
    have q0 := (blk_cell hg 0).trans rfl
    have q1 := (blk_cell hg 1).trans rfl
    have qf := blk_frozen hg 1
    have hlg := blk_lt hg
    have hu36 := Tryd.underlying36
    have hu103 := Tryd.underlying103
    have HB1 := Aside0.mk (show Below w0.heap.size w0 ((w.setCell ⟨g, 1, none⟩ (.int .i64 (left - 1))).alloc (.cells #[.int .i64 x.f0, .string x.f1, .int .i64 x.f2, .slice A x.f3.length c] 36)) from below_alloc (below_set hB hg0) _)
    have HG1 := Aside0.mk (show ((w.setCell ⟨g, 1, none⟩ (.int .i64 (left - 1))).alloc (.cells #[.int .i64 x.f0, .string x.f1, .int .i64 x.f2, .slice A x.f3.length c] 36)).heap[g]? = some (.cells #[.slice (some ⟨gf, 0, none⟩) 13 13, .int .i64 (left - 1)] 103 (0, 0)) from blk_alloc (blk_put hg 1 _ rfl) _)
    have HK1 := Aside0.mk (show KeepBut w ((w.setCell ⟨g, 1, none⟩ (.int .i64 (left - 1))).alloc (.cells #[.int .i64 x.f0, .string x.f1, .int .i64 x.f2, .slice A x.f3.length c] 36)) g none from keep_alloc ((KeepBut.refl w g none).set_ 1 _) _)
    clear hg hf hr hB
    by_cases hl : left - 1 < 0
    · have hlb : decide (left - 1 < 0) = true := decide_eq_true hl
      go_enter Tryd.func100, Tryd.ntmps100
      go_wp2
      go_ret
      exact ⟨rfl, HB1.out, HG1.out, HK1.out⟩
    · have hlb : decide (left - 1 < 0) = false := decide_eq_false hl
      go_enter Tryd.func100, Tryd.ntmps100
      go_wp2
      go_ret
      exact ⟨rfl, HB1.out, HG1.out, HK1.out⟩
  | succ d ih =>
    intro hd x A c left b l' w hr hc hl0 hl1 hB hg hf h
    have q0 := (blk_cell hg 0).trans rfl
    have q1 := (blk_cell hg 1).trans rfl
    have qf := blk_frozen hg 1
    have hlg := blk_lt hg
    have hu36 := Tryd.underlying36
    have hu103 := Tryd.underlying103
    have HB1 := Aside0.mk (show Below w0.heap.size w0 ((w.setCell ⟨g, 1, none⟩ (.int .i64 (left - 1))).alloc (.cells #[.int .i64 x.f0, .string x.f1, .int .i64 x.f2, .slice A x.f3.length c] 36)) from below_alloc (below_set hB hg0) _)
    have HG1 := Aside0.mk (show ((w.setCell ⟨g, 1, none⟩ (.int .i64 (left - 1))).alloc (.cells #[.int .i64 x.f0, .string x.f1, .int .i64 x.f2, .slice A x.f3.length c] 36)).heap[g]? = some (.cells #[.slice (some ⟨gf, 0, none⟩) 13 13, .int .i64 (left - 1)] 103 (0, 0)) from blk_alloc (blk_put hg 1 _ rfl) _)
    have HK1 := Aside0.mk (show KeepBut w ((w.setCell ⟨g, 1, none⟩ (.int .i64 (left - 1))).alloc (.cells #[.int .i64 x.f0, .string x.f1, .int .i64 x.f2, .slice A x.f3.length c] 36)) g none from keep_alloc ((KeepBut.refl w g none).set_ 1 _) _)
    have HF1 := Aside0.mk (show ((w.setCell ⟨g, 1, none⟩ (.int .i64 (left - 1))).alloc (.cells #[.int .i64 x.f0, .string x.f1, .int .i64 x.f2, .slice A x.f3.length c] 36)).heap[gf]? = some (.cells formCells 113 (0, 0)) from blk_alloc (blk_far hf hne _) _)
    have HX1 := Aside0.mk (show ((w.setCell ⟨g, 1, none⟩ (.int .i64 (left - 1))).alloc (.cells #[.int .i64 x.f0, .string x.f1, .int .i64 x.f2, .slice A x.f3.length c] 36)).heap[w.heap.size]? = some (.cells #[.int .i64 x.f0, .string x.f1, .int .i64 x.f2, .slice A x.f3.length c] 36 (0, 0)) from by have := blk_new (w.setCell ⟨g, 1, none⟩ (.int .i64 (left - 1))) (.cells #[.int .i64 x.f0, .string x.f1, .int .i64 x.f2, .slice A x.f3.length c] 36); simpa using this)
    have HLF := Aside0.mk (blk_lt hf)
    have HLG := Aside0.mk hlg
    have HR := Aside0.mk hr
    have HC := Aside0.mk hc
    have hm := hr.2.1
    have HH := Aside0.mk h
    clear hg hf hr hB h
    by_cases hl : left - 1 < 0
    · have hlb : decide (left - 1 < 0) = true := decide_eq_true hl
      have H := HH.out
      rw [chk, if_pos hl] at H
      simp only [Option.some.injEq, Prod.mk.injEq] at H
      obtain ⟨rfl, rfl⟩ := H
      clear HH
      go_enter Tryd.func100, Tryd.ntmps100
      go_wp2
      go_ret
      exact ⟨rfl, HB1.out, HG1.out, HK1.out⟩
    · have hlb : decide (left - 1 < 0) = false := decide_eq_false hl
      have hdb : (((d : Nat) : Int) + 1 == 0) = false := by simp; omega
      have H := HH.out
      rw [chk, if_neg hl] at H
      obtain ⟨sb, hs, H⟩ := Option.bind_eq_some_iff.mp H
      have HS := Aside0.mk hs
      have H0 := Aside0.mk H
      clear HH H hs
      generalize hw1 : ((w.setCell ⟨g, 1, none⟩ (.int .i64 (left - 1))).alloc (.cells #[.int .i64 x.f0, .string x.f1, .int .i64 x.f2, .slice A x.f3.length c] 36)) = w1 at HB1 HG1 HK1 HF1 HX1
      have HW1 := Aside0.mk hw1
      clear hw1
      cases sb with
      | false =>
        have H := H0.out
        simp at H
        obtain ⟨rfl, rfl⟩ := H
        clear H0
        push_cast
        go_enter Tryd.func100, Tryd.ntmps100
        go_wp2_with fail
        rw [HW1.out]
        refine (shape_calls k x.f0 x.f1 x.f2 A x.f3.length c g gf (left - 1) false w1 hm HG1.out HF1.out HS.out).mono ?_
        rintro e w2 ⟨rfl, hb⟩
        have HB2 := Aside0.mk (below_step HB1.out hb)
        have HG2 := Aside0.mk (blk_below HG1.out hb)
        have HK2 := Aside0.mk (HK1.out.trans (KeepBut.of_below hb g none) (.inl rfl))
        clear hb
        go_wp2
        go_ret
        exact ⟨rfl, HB2.out, HG2.out, HK2.out⟩
      | true =>
        push_cast
        go_enter Tryd.func100, Tryd.ntmps100
        go_wp2_with fail
        rw [HW1.out]
        refine (shape_calls k x.f0 x.f1 x.f2 A x.f3.length c g gf (left - 1) true w1 hm HG1.out HF1.out HS.out).mono ?_
        rintro e w2 ⟨rfl, hb⟩
        have HB2 := Aside0.mk (below_step HB1.out hb)
        have HG2 := Aside0.mk (blk_below HG1.out hb)
        have HF2 := Aside0.mk (blk_below HF1.out hb)
        have HX2 := Aside0.mk (blk_below HX1.out hb)
        have HK2 := Aside0.mk (HK1.out.trans (KeepBut.of_below hb g none) (.inl rfl))
        have qx3 := (blk_cell HX2.out 3).trans rfl
        clear hb
        go_wp2_with fail
        have H1 := Aside0.mk (show chkL (chk k d) (x.f0 == 1) (x.f3.drop 0) (left - 1) = some (b, l') from by have := H0.out; simpa using this)
        clear H0 H
        go_loopg [34] x.f3.length (fun kq v34 wr => ∃ (i : Nat) (lc : Int), v34 = .int .i64 i ∧ Aside0 (kq + i = x.f3.length) ∧ Aside0 (chkL (chk k d) (x.f0 == 1) (x.f3.drop i) lc = some (b, l')) ∧ Aside0 (0 ≤ lc ∧ lc ≤ 1000) ∧ Aside0 (Below w0.heap.size w0 wr) ∧ Aside0 (wr.heap[g]? = some (.cells #[.slice (some ⟨gf, 0, none⟩) 13 13, .int .i64 lc] 103 (0, 0))) ∧ Aside0 (KeepBut w2 wr g none))
        case atStart => exact ⟨0, left - 1, rfl, ⟨rfl⟩, H1, ⟨hl, by omega⟩, HB2, HG2, ⟨KeepBut.refl _ _ _⟩⟩
        case round =>
          obtain ⟨i, lc, rfl, HI, HA, HL, HB3, HG3, HK3⟩ := hrel
          clear H1
          cases gk with
          | zero =>
            have hi : i = x.f3.length := by have := HI.out; omega
            subst hi
            have H := HA.out
            rw [List.drop_length, chkL] at H
            simp only [Option.some.injEq, Prod.mk.injEq] at H
            obtain ⟨rfl, rfl⟩ := H
            go_wp2
            go_ret
            exact ⟨rfl, HB3.out, HG3.out, HK2.out.trans HK3.out (.inl rfl)⟩
          | succ k1 =>
            have hi : i < x.f3.length := by have := HI.out; omega
            have hib : decide ((i : Int) < (x.f3.length : Int)) = true := decide_eq_true (by omega)
            obtain ⟨ad, A3, c3, e, hx0, hx1, hx2, hx3, hl3, hi3⟩ := at_T36 HR.out (i : Int) (by omega) (by omega)
            simp only [Int.toNat_natCast] at hx0 hx1 hx2 hx3
            obtain ⟨y, hy⟩ : ∃ y, y = rd_T36 x.f3 (i : Int) := ⟨_, rfl⟩
            rw [← hy] at hx0 hx1 hx2 hx3 hl3 hi3
            have hd : x.f3.drop i = y :: x.f3.drop (i + 1) := by rw [List.drop_eq_getElem_cons hi, hy]; simp [rd_T36, hi]
            have HY := Aside0.mk hd
            have HR3 := Aside0.mk hi3
            have HC3 := Aside0.mk hl3
            have H := HA.out
            rw [hd, chkL] at H
            have H2 := Aside0.mk H
            clear HA H hy hd hi3 hl3
            subst e
            replace hx0 := (HB3.out.cell (World.block_lt_of_cell? w0 _ hx0)).trans hx0
            replace hx1 := (HB3.out.cell (World.block_lt_of_cell? w0 _ hx1)).trans hx1
            replace hx2 := (HB3.out.cell (World.block_lt_of_cell? w0 _ hx2)).trans hx2
            replace hx3 := (HB3.out.cell (World.block_lt_of_cell? w0 _ hx3)).trans hx3
            have HX3 := Aside0.mk (HK3.out.blk HX2.out (by have := HLG.out; omega) (by simp))
            have HF3 := Aside0.mk (HK3.out.blk HF2.out hne (by simp))
            have qx0 : wr.cell? ⟨w.heap.size, 0, none⟩ = some (.int .i64 x.f0) := (blk_cell HX3.out 0).trans rfl
            have hws : w.heap.size < wr.heap.size := blk_lt HX3.out
            have hgs : g < wr.heap.size := blk_lt HG3.out
            by_cases hrow : ((y.f0 == 1) == (x.f0 == 1)) = true
            · have H := H2.out
              rw [if_pos hrow] at H
              simp only [Option.some.injEq, Prod.mk.injEq] at H
              obtain ⟨rfl, rfl⟩ := H
              clear H2
              go_wp2_with fail
              go_ret
              exact ⟨rfl, below_alloc HB3.out _, blk_alloc HG3.out _, keep_alloc (HK2.out.trans HK3.out (.inl rfl)) _⟩
            · have H := H2.out
              rw [if_neg hrow] at H
              replace hrow : ((y.f0 == 1) == (x.f0 == 1)) = false := by simpa using hrow
              obtain ⟨⟨rb, rl⟩, hr1, H⟩ := Option.bind_eq_some_iff.mp H
              have HR1 := Aside0.mk hr1
              have H3 := Aside0.mk H
              clear H2 H hr1
              have hL0 := HL.out.1
              have hL1 := HL.out.2
              cases rb with
              | false =>
                have H := H3.out
                simp at H
                obtain ⟨rfl, rfl⟩ := H
                clear H3
                go_wp2_with fail
                refine (ih (by omega) y A3 c3 lc false rl _ HR3.out HC3.out hL0 hL1 (below_alloc HB3.out _) (blk_alloc HG3.out _) (blk_alloc HF3.out _) HR1.out).mono ?_
                rintro e w4 ⟨rfl, hb4, hg4, hk4⟩
                have HB4 := Aside0.mk hb4
                have HG4 := Aside0.mk hg4
                have HK4 := Aside0.mk ((keep_alloc (HK2.out.trans HK3.out (.inl rfl)) _).trans hk4 (.inl rfl))
                clear hb4 hg4 hk4
                go_wp2
                go_ret
                exact ⟨rfl, HB4.out, HG4.out, HK4.out⟩
              | true =>
                have H4 := Aside0.mk (show chkL (chk k d) (x.f0 == 1) (x.f3.drop (i + 1)) rl = some (b, l') from by have := H3.out; simpa using this)
                have hle := chk_le k d lc y rl HR1.out
                have HLE := Aside0.mk (show 0 ≤ rl ∧ rl ≤ 1000 from ⟨hle.1, by omega⟩)
                clear H3 hle
                go_wp2_with fail
                refine (ih (by omega) y A3 c3 lc true rl _ HR3.out HC3.out hL0 hL1 (below_alloc HB3.out _) (blk_alloc HG3.out _) (blk_alloc HF3.out _) HR1.out).mono ?_
                rintro e w4 ⟨rfl, hb4, hg4, hk4⟩
                have HB4 := Aside0.mk hb4
                have HG4 := Aside0.mk hg4
                have HK4 := Aside0.mk ((keep_alloc HK3.out _).trans hk4 (.inl rfl))
                clear hb4 hg4 hk4
                go_wp2
                go_roundg k1
                case measure => omega
                case rel => exact ⟨i + 1, rl, by go_num, ⟨by have := HI.out; omega⟩, H4, HLE, HB4, HG4, HK4⟩
end Go.Proofs.YtagkhoeidjlahaaDoor.G
namespace Go.Proofs.YtagkhoeidjlahaaDoor.G
open Go.RowKit Go.Proofs.YtagkhoeidjlahaaDoorW.PrintWords Go.Proofs.YtagkhoeidjlahaaDoorW.PrintLast Go.Proofs.YtagkhoeidjlahaaDoorW.PrintMore
attribute [local go_sem] max2_int min2_int max_two min_two max_three min_three max_four min_four
set_option linter.unusedVariables false
set_option linter.unusedSimpArgs false
def node_Valid.f (k : Nat) (a0_0 : Int) (a0_1 : ByteArray) (a0_2 : Int) (l0_3 : List (S36)) : Option (Bool) := if a0_0 = 1 then (chk k 24 1000 ⟨a0_0, a0_1, a0_2, l0_3⟩).bind fun r => some r.1 else some false
set_option maxHeartbeats 4000000 in

theorem node_Valid.calls (k : Nat) (a0_0 : Int) (a0_1 : ByteArray) (a0_2 : Int) (A0_3 : Option Addr) (c0_3 : Nat) (l0_3 : List (S36)) (r : Bool) (w : World) (hr0_3 : Kd.C k36 w A0_3 l0_3.length l0_3) (hc0_3 : l0_3.length ≤ c0_3) (h : node_Valid.f k a0_0 a0_1 a0_2 l0_3 = some r) :
    Calls Tryd.prog 72 #[.agg #[.int .i64 a0_0, .string a0_1, .int .i64 a0_2, .slice A0_3 l0_3.length c0_3]] w fun e w' => e = .returned (.bool r) ∧ Below w.heap.size w w' := by
  have hu36 := Tryd.underlying36
  have hu103 := Tryd.underlying103
  unfold node_Valid.f at h
  have HR := Aside0.mk hr0_3
  have HC := Aside0.mk hc0_3
  clear hr0_3 hc0_3
  by_cases h1 : a0_0 = 1
  · rw [if_pos h1] at h
    subst h1
    obtain ⟨⟨b, l'⟩, hc, h⟩ := Option.bind_eq_some_iff.mp h
    cases h
    have HH := Aside0.mk hc
    clear hc
    go_enter Tryd.func72, Tryd.ntmps72
    go_wp2_with (go_at_call 99; refine (forms_calls _).mono ?_; rintro e w' ⟨rfl, rfl⟩)
    refine (check_calls k w (w.heap.size + 1 + 1) (w.heap.size + 1) (by omega) (by omega) (by omega) 24 (by omega) ⟨1, a0_1, a0_2, l0_3⟩ A0_3 c0_3 1000 b l' _ HR.out HC.out (by omega) (by omega) (below_alloc (below_alloc (below_alloc (Below.refl _ _) _) _) _) ?_ ?_ HH.out).mono ?_
    · have := blk_new ((w.alloc (.cells #[.int .i64 1, .string a0_1, .int .i64 a0_2, .slice A0_3 l0_3.length c0_3] 36)).alloc (.cells formCells 113)) (.cells #[.slice (some ⟨w.heap.size + 1, 0, none⟩) 13 13, .int .i64 1000] 103)
      simpa using this
    · refine blk_alloc ?_ _
      have := blk_new (w.alloc (.cells #[.int .i64 1, .string a0_1, .int .i64 a0_2, .slice A0_3 l0_3.length c0_3] 36)) (.cells formCells 113)
      simpa using this
    rintro e w1 ⟨rfl, hb, _, _⟩
    have HB := Aside0.mk hb
    clear hb
    go_wp2
    go_ret
    exact ⟨rfl, HB.out⟩
  · rw [if_neg h1] at h
    cases h
    have h1b : (a0_0 == 1) = false := by simpa using h1
    go_enter Tryd.func72, Tryd.ntmps72
    go_wp2_with (go_at_call 99; refine (forms_calls _).mono ?_; rintro e w' ⟨rfl, rfl⟩)
    go_ret
    exact ⟨rfl, below_alloc (below_alloc (below_alloc (Below.refl _ _) _) _) _⟩
end Go.Proofs.YtagkhoeidjlahaaDoor.G
