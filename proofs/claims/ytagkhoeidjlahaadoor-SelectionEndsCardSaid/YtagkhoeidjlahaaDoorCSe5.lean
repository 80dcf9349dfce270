-- Written by pack2.py: this session's texts and the printer's, pruned.
import Derived.Test.YtagkhoeidjlahaaDoorCSe2
import Derived.Test.YtagkhoeidjlahaaDoorCSe4
namespace Go.Proofs.YtagkhoeidjlahaaDoor.G
open Go.RowKit Go.Proofs.YtagkhoeidjlahaaDoorW.PrintWords Go.Proofs.YtagkhoeidjlahaaDoorW.PrintLast Go.Proofs.YtagkhoeidjlahaaDoorW.PrintMore
attribute [local go_sem] max2_int min2_int max_two min_two max_three min_three max_four min_four
set_option linter.unusedVariables false
set_option linter.unusedSimpArgs false
mutual
def node_Symbol.j0 : Nat → ByteArray → Bool → Option (Bool)
 | 0, _, _ => none
 | k + 1, x0, x30 => if x30 = true then (some false) else (node_Symbol.l0 k x0 (x0.size : Int) 0)
def node_Symbol.l0 : Nat → ByteArray → Int → Int → Option (Bool)
 | 0, _, _, _ => none
 | k + 1, x0, x32, x33 => if x33 < x32 then (if 0 ≤ x33 then (if x33 < (x0.size : Int) then ((node_letter.f (bt x0 x33)).bind fun t116 => (if t116 = true then (node_Symbol.l0 k x0 x32 (wrap64 (x33 + 1))) else (some false))) else (none)) else (none)) else (some true)
end
def node_Symbol.f (k : Nat) (a0 : ByteArray) : Option (Bool) := if (a0.size : Int) = 1 then (if 0 < (a0.size : Int) then ((node_letter.f (bt a0 0)).bind fun t109 => (if t109 = true then (some true) else ((strings_Contains.f (⟨#[43, 45, 42, 47, 61, 60, 62, 44, 59, 58, 33, 124, 39, 63, 126, 64]⟩ : ByteArray) a0).bind fun t110 => (some t110)))) else (none)) else (if (a0.size : Int) < 2 then (node_Symbol.j0 k a0 true) else (if (a0.size : Int) > 16 then (node_Symbol.j0 k a0 true) else ((node_accent.f k a0).bind fun t111 => (if t111 = true then (node_Symbol.j0 k a0 true) else ((slices_Contains_string_string.f k (([(⟨#[102, 114, 97, 99]⟩ : ByteArray), (⟨#[114, 111, 111, 116]⟩ : ByteArray), (⟨#[109, 97, 116, 114, 105, 120]⟩ : ByteArray), (⟨#[102, 101, 110, 99, 101]⟩ : ByteArray)] : List ByteArray)) a0).bind fun t115 => (node_Symbol.j0 k a0 t115))))))
set_option maxHeartbeats 8000000 in
set_option maxRecDepth 100000 in
theorem node_Symbol.calls (k : Nat) (a0 : ByteArray) (r : Bool) (w : World) (h : node_Symbol.f k a0 = some r) :
  Calls Tryd.prog 114 #[.string a0] w fun e w' => e = .returned (.bool r) ∧ Below w.heap.size w w' := by
 have HB := Aside0.mk (Below.refl w.heap.size w)
 have H : (if (a0.size : Int) = 1 then (if 0 < (a0.size : Int) then ((node_letter.f (bt a0 0)).bind fun t109 => (if t109 = true then (some true) else ((strings_Contains.f (⟨#[43, 45, 42, 47, 61, 60, 62, 44, 59, 58, 33, 124, 39, 63, 126, 64]⟩ : ByteArray) a0).bind fun t110 => (some t110)))) else (none)) else (if (a0.size : Int) < 2 then (node_Symbol.j0 k a0 true) else (if (a0.size : Int) > 16 then (node_Symbol.j0 k a0 true) else ((node_accent.f k a0).bind fun t111 => (if t111 = true then (node_Symbol.j0 k a0 true) else ((slices_Contains_string_string.f k (([(⟨#[102, 114, 97, 99]⟩ : ByteArray), (⟨#[114, 111, 111, 116]⟩ : ByteArray), (⟨#[109, 97, 116, 114, 105, 120]⟩ : ByteArray), (⟨#[102, 101, 110, 99, 101]⟩ : ByteArray)] : List ByteArray)) a0).bind fun t115 => (node_Symbol.j0 k a0 t115))))))) = some r := h
 clear h
 by_cases c2 : (a0.size : Int) = 1
 ·
  rw [if_pos c2] at H
  have c2b0 : ((a0.size : Int) == 1) = true := beq_iff_eq.mpr c2
  have c2b1 : ((a0.size : Int) != 1) = false := bne_eq_false_iff_eq.mpr c2
  clear c2
  by_cases c3 : 0 < (a0.size : Int)
  ·
   rw [if_pos c3] at H
   have c3b0 : decide (0 < (a0.size : Int)) = true := decide_eq_true c3
   have c3b1 : decide (0 < a0.size) = true := decide_eq_true (by omega)
   clear c3
   replace H := Option.bind_eq_some_iff.mp H
   obtain ⟨t109, A50, H⟩ := H
   replace H : (if t109 = true then (some true) else ((strings_Contains.f (⟨#[43, 45, 42, 47, 61, 60, 62, 44, 59, 58, 33, 124, 39, 63, 126, 64]⟩ : ByteArray) a0).bind fun t110 => (some t110))) = some r := H
   have A5 := Aside0.mk A50
   clear A50
   by_cases c6 : t109 = true
   ·
    subst c6
    have H1 : (some true) = some r := by rw [if_pos rfl] at H; exact H
    clear H
    have H := H1
    clear H1
    obtain rfl := Option.some.inj H
    have p4 : 0 ≤ (0 : Int) := (by omega)
    have q4 : 0 < a0.size := (by have : (0 : Int) < (a0.size : Int) := of_decide_eq_true (by first | (with_reducible assumption) | assumption); omega)
    have hx4 : ∀ h : 0 < a0.size, ((a0[0]'h).toNat : Int) = bt a0 0 := bt_at a0 0
    clear p4
    have qi4 : (0 < (a0.size : Int)) = True := eq_true (of_decide_eq_true (by first | (with_reducible assumption) | assumption))
    replace q4 := eq_true q4
    go_enter Tryd.func114, Tryd.ntmps114
    go_wp2_with (first | ((with_reducible refine gate_callee (f := 130) rfl ?_); refine goesL_ (some 9) rfl rfl Tryd.func130 (by kernel_rfl) rfl #[.int .u8 (bt a0 0)] rfl (by (try simp only [List.map_toArray, List.map_cons, List.map_nil]); first | done | rfl | (simp only [List.length_drop, List.length_take]; rfl)) ?_; (with_reducible refine (node_letter.calls (bt a0 0) true _ A5.out).mono ?_); rintro e w' ⟨rfl, ⟨nd, rfl⟩⟩; refine ⟨_, rfl, ?_⟩))
    go_ret
    exact ⟨by first | rfl | (simp [errW_none, errW_some] <;> rfl) | (simp [*, errW_none, errW_some] <;> rfl), by repeat (first | (with_reducible first | exact HB.out | apply below_alloc | apply pw_below_drewN | apply below_drew1) | exact HB.out)⟩
   ·
    replace c6 := Bool.eq_false_iff.mpr c6
    subst c6
    have H1 : ((strings_Contains.f (⟨#[43, 45, 42, 47, 61, 60, 62, 44, 59, 58, 33, 124, 39, 63, 126, 64]⟩ : ByteArray) a0).bind fun t110 => (some t110)) = some r := by rw [if_neg (show ¬ (false = true) by decide)] at H; exact H
    clear H
    have H := H1
    clear H1
    replace H := Option.bind_eq_some_iff.mp H
    obtain ⟨t110, A70, H⟩ := H
    replace H : (some t110) = some r := H
    have A7 := Aside0.mk A70
    clear A70
    obtain rfl := Option.some.inj H
    have p4 : 0 ≤ (0 : Int) := (by omega)
    have q4 : 0 < a0.size := (by have : (0 : Int) < (a0.size : Int) := of_decide_eq_true (by first | (with_reducible assumption) | assumption); omega)
    have hx4 : ∀ h : 0 < a0.size, ((a0[0]'h).toNat : Int) = bt a0 0 := bt_at a0 0
    clear p4
    have qi4 : (0 < (a0.size : Int)) = True := eq_true (of_decide_eq_true (by first | (with_reducible assumption) | assumption))
    replace q4 := eq_true q4
    go_enter Tryd.func114, Tryd.ntmps114
    go_wp2_with (first | ((with_reducible refine gate_callee (f := 130) rfl ?_); refine goesL_ (some 9) rfl rfl Tryd.func130 (by kernel_rfl) rfl #[.int .u8 (bt a0 0)] rfl (by (try simp only [List.map_toArray, List.map_cons, List.map_nil]); first | done | rfl | (simp only [List.length_drop, List.length_take]; rfl)) ?_; (with_reducible refine (node_letter.calls (bt a0 0) false _ A5.out).mono ?_); rintro e w' ⟨rfl, ⟨nd, rfl⟩⟩; refine ⟨_, rfl, ?_⟩) | (go_at_call 131; (with_reducible refine (strings_Contains.calls (⟨#[43, 45, 42, 47, 61, 60, 62, 44, 59, 58, 33, 124, 39, 63, 126, 64]⟩ : ByteArray) a0 t110 _ A7.out).mono ?_); rintro e w' ⟨rfl, ⟨nd, rfl⟩⟩))
    go_ret
    exact ⟨by first | rfl | (simp [errW_none, errW_some] <;> rfl) | (simp [*, errW_none, errW_some] <;> rfl), by repeat (first | (with_reducible first | exact HB.out | apply below_alloc | apply pw_below_drewN | apply below_drew1) | exact HB.out)⟩
  ·
   rw [if_neg c3] at H
   exact absurd H (by simp)
 ·
  rw [if_neg c2] at H
  have c2b0 : ((a0.size : Int) == 1) = false := beq_eq_false_iff_ne.mpr c2
  have c2b1 : ((a0.size : Int) != 1) = true := bne_iff_ne.mpr c2
  have HC8 := Aside0.mk H
  clear H
  go_enter Tryd.func114, Tryd.ntmps114
  go_upto_region 3 with (fail)
  go_cut [30] (fun v30 wc => ∃ (kq : Nat) (x30_7 : Bool), v30 = .bool x30_7 ∧ Aside0 (node_Symbol.j0 kq a0 x30_7 = some r) ∧ Aside0 (kq ≤ k) ∧ Aside0 (Below w.heap.size w wc))
  case first =>
   have H := HC8.out
   clear HC8
   by_cases c9 : (a0.size : Int) < 2
   ·
    rw [if_pos c9] at H
    have c9b0 : decide ((a0.size : Int) < 2) = true := decide_eq_true c9
    have c9b1 : decide (a0.size < 2) = true := decide_eq_true (by omega)
    clear c9
    (first | rw [c9b0] | (simp only [i64_w, i32_w]; rw [c9b0]) | skip)
    have H' := Aside0.mk H
    clear H
    go_wp2
    go_meet
    case rel => exact ⟨_, (true), (by first | rfl | (simp; done) | (simp [*]; done)), H', ⟨by first | omega | exact Nat.le_refl _⟩, ⟨by repeat (first | (with_reducible first | exact HB.out | apply below_alloc | apply pw_below_drewN | apply below_drew1) | exact HB.out)⟩⟩
   ·
    rw [if_neg c9] at H
    have c9b0 : decide ((a0.size : Int) < 2) = false := decide_eq_false c9
    have c9b1 : decide (a0.size < 2) = false := decide_eq_false (by omega)
    clear c9
    (first | rw [c9b0] | (simp only [i64_w, i32_w]; rw [c9b0]) | skip)
    by_cases c10 : (a0.size : Int) > 16
    ·
     rw [if_pos c10] at H
     have c10b0 : decide (16 < (a0.size : Int)) = true := decide_eq_true c10
     have c10b1 : decide (16 < a0.size) = true := decide_eq_true (by omega)
     clear c10
     have H' := Aside0.mk H
     clear H
     go_wp2
     go_meet
     case rel => exact ⟨_, (true), (by first | rfl | (simp; done) | (simp [*]; done)), H', ⟨by first | omega | exact Nat.le_refl _⟩, ⟨by repeat (first | (with_reducible first | exact HB.out | apply below_alloc | apply pw_below_drewN | apply below_drew1) | exact HB.out)⟩⟩
    ·
     rw [if_neg c10] at H
     have c10b0 : decide (16 < (a0.size : Int)) = false := decide_eq_false c10
     have c10b1 : decide (16 < a0.size) = false := decide_eq_false (by omega)
     clear c10
     replace H := Option.bind_eq_some_iff.mp H
     obtain ⟨t111, A110, H⟩ := H
     replace H : (if t111 = true then (node_Symbol.j0 k a0 true) else ((slices_Contains_string_string.f k (([(⟨#[102, 114, 97, 99]⟩ : ByteArray), (⟨#[114, 111, 111, 116]⟩ : ByteArray), (⟨#[109, 97, 116, 114, 105, 120]⟩ : ByteArray), (⟨#[102, 101, 110, 99, 101]⟩ : ByteArray)] : List ByteArray)) a0).bind fun t115 => (node_Symbol.j0 k a0 t115))) = some r := H
     have A11 := Aside0.mk A110
     clear A110
     by_cases c12 : t111 = true
     ·
      subst c12
      have H1 : (node_Symbol.j0 k a0 true) = some r := by rw [if_pos rfl] at H; exact H
      clear H
      have H := H1
      clear H1
      have H' := Aside0.mk H
      clear H
      go_wp2_with (first | (go_at_call 117; (with_reducible refine (node_accent.calls k a0 true _ A11.out).mono ?_); rintro e w13 ⟨rfl, hb⟩; have n0_ := Aside0.mk (below_step (by repeat (first | (with_reducible first | exact HB.out | apply below_alloc | apply pw_below_drewN | apply below_drew1) | exact HB.out)) hb); clear HB; have HB := n0_; clear n0_; (try clear hb); (try clear hb2); (try clear hk); (try clear hi)))
      go_meet
      case rel => exact ⟨_, (true), (by first | rfl | (simp; done) | (simp [*]; done)), H', ⟨by first | omega | exact Nat.le_refl _⟩, ⟨by repeat (first | (with_reducible first | exact HB.out | apply below_alloc | apply pw_below_drewN | apply below_drew1) | exact HB.out)⟩⟩
     ·
      replace c12 := Bool.eq_false_iff.mpr c12
      subst c12
      have H1 : ((slices_Contains_string_string.f k (([(⟨#[102, 114, 97, 99]⟩ : ByteArray), (⟨#[114, 111, 111, 116]⟩ : ByteArray), (⟨#[109, 97, 116, 114, 105, 120]⟩ : ByteArray), (⟨#[102, 101, 110, 99, 101]⟩ : ByteArray)] : List ByteArray)) a0).bind fun t115 => (node_Symbol.j0 k a0 t115)) = some r := by rw [if_neg (show ¬ (false = true) by decide)] at H; exact H
      clear H
      have H := H1
      clear H1
      obtain ⟨y112, hy112⟩ : ∃ y_ : List ByteArray, y_ = (([(⟨#[102, 114, 97, 99]⟩ : ByteArray), (⟨#[114, 111, 111, 116]⟩ : ByteArray), (⟨#[109, 97, 116, 114, 105, 120]⟩ : ByteArray), (⟨#[102, 101, 110, 99, 101]⟩ : ByteArray)] : List ByteArray)) := ⟨_, rfl⟩
      replace H : ((slices_Contains_string_string.f k y112 a0).bind fun t115 => (node_Symbol.j0 k a0 t115)) = some r := by first | (rw [hy112]; with_reducible exact H) | (have H2_ := (Option.bind_some _ _).symm.trans H; rw [hy112]; with_reducible exact H2_) | (have H2_ := (Option.bind_some _ _).symm.trans H; with_reducible exact H2_) | with_reducible exact H | (rw [hy112]; exact H) | exact H
      have Ny112 := Aside0.mk hy112
      clear hy112
      replace H := Option.bind_eq_some_iff.mp H
      obtain ⟨t115, A140, H⟩ := H
      replace H : (node_Symbol.j0 k a0 t115) = some r := H
      have A14 := Aside0.mk A140
      clear A140
      have H' := Aside0.mk H
      clear H
      go_wp2_with (first | (go_at_call 117; (with_reducible refine (node_accent.calls k a0 false _ A11.out).mono ?_); rintro e w15 ⟨rfl, hb⟩; have n0_ := Aside0.mk (below_step (by repeat (first | (with_reducible first | exact HB.out | apply below_alloc | apply pw_below_drewN | apply below_drew1) | exact HB.out)) hb); clear HB; have HB := n0_; clear n0_; (try clear hb); (try clear hb2); (try clear hk); (try clear hi)) | ((with_reducible refine gate_dst (N := 27) rfl ?_); (try (refine gate_guard (by rfl) ?_; dsimp only)); refine Kd.R_lit Kd.string _ 9 ?hg (N := 27) ?hd (xs := ([(⟨#[102, 114, 97, 99]⟩ : ByteArray), (⟨#[114, 111, 111, 116]⟩ : ByteArray), (⟨#[109, 97, 116, 114, 105, 120]⟩ : ByteArray), (⟨#[102, 101, 110, 99, 101]⟩ : ByteArray)] : List ByteArray)) (inner := [.string (⟨#[102, 114, 97, 99]⟩ : ByteArray), .string (⟨#[114, 111, 111, 116]⟩ : ByteArray), .string (⟨#[109, 97, 116, 114, 105, 120]⟩ : ByteArray), .string (⟨#[102, 101, 110, 99, 101]⟩ : ByteArray)]) (ok := fun _ => True) (okp := fun _ => True) ?hr ?hp (fun _ hk => hk) trivial (Below.refl _ _) (Nat.le_refl _) (by simp) ?_; (case hd => rfl); (case hg => rfl); (case hr => first | (go_simp; done) | (go_simp; rfl)); (case hp => exact (Reps.one (show Kd.M Kd.string _ _ _ (⟨#[102, 114, 97, 99]⟩ : ByteArray) [.string (⟨#[102, 114, 97, 99]⟩ : ByteArray)] from rfl) (Reps.one (show Kd.M Kd.string _ _ _ (⟨#[114, 111, 111, 116]⟩ : ByteArray) [.string (⟨#[114, 111, 111, 116]⟩ : ByteArray)] from rfl) (Reps.one (show Kd.M Kd.string _ _ _ (⟨#[109, 97, 116, 114, 105, 120]⟩ : ByteArray) [.string (⟨#[109, 97, 116, 114, 105, 120]⟩ : ByteArray)] from rfl) (Reps.one (show Kd.M Kd.string _ _ _ (⟨#[102, 101, 110, 99, 101]⟩ : ByteArray) [.string (⟨#[102, 101, 110, 99, 101]⟩ : ByteArray)] from rfl) (Reps.none _ _)))))); intro v113 w16 ho17 hb hg_ hnew_; clear hg_ hnew_; (first | rw [← Ny112.out] at ho17 | (simp only [Int.reduceToNat] at ho17; rw [← Ny112.out] at ho17)); have n0_ := Aside0.mk (Kd.R_lower ho17 (below_size (by repeat (first | (with_reducible first | exact HB.out | apply below_alloc | apply pw_below_drewN | apply below_drew1) | exact HB.out)))); have n1_ := Aside0.mk (below_step (by repeat (first | (with_reducible first | exact HB.out | apply below_alloc | apply pw_below_drewN | apply below_drew1) | exact HB.out)) hb); clear HB; have HO114 := n0_; have HB := n1_; clear n0_ n1_; clear hb ho17; obtain ⟨Ao18, co18, eo18⟩ := Kd.R_slice HO114.out; subst eo18) | (go_at_call 132; (with_reducible refine (slices_Contains_string_string.calls k _ _ y112 a0 t115 _ ?side1 ?side2 A14.out).mono ?_); (case side1 => repeat (first | exact (Kd.R_reads' HO114.out).2.2 | (with_reducible refine Kd.C_alloc ?_ _) | (with_reducible refine Kd.C_drewN ?_ _) | (with_reducible refine Kd.C_drew ?_))); (case side2 => exact (Kd.R_reads' HO114.out).2.1); rintro e w' ⟨rfl, ⟨nd, rfl⟩⟩))
      go_meet
      case rel => exact ⟨_, (t115), (by first | rfl | (simp; done) | (simp [*]; done)), H', ⟨by first | omega | exact Nat.le_refl _⟩, ⟨by repeat (first | (with_reducible first | exact HB.out | apply below_alloc | apply pw_below_drewN | apply below_drew1) | exact HB.out)⟩⟩
  case rest =>
   clear HC8
   try clear c1
   try clear c2
   try clear c2b0
   try clear c2b1
   try clear p2
   try clear c3
   try clear c3b0
   try clear c3b1
   try clear p4
   try clear q4
   try clear hx4
   try clear qi4
   try clear c6
   try clear c9
   try clear c9b0
   try clear c9b1
   try clear c10
   try clear c10b0
   try clear c10b1
   try clear c11
   try clear c12
   try clear c13
   try clear p4
   try clear q4
   obtain ⟨kq, x30_7, rfl, HA, HJ7, HB⟩ := hcut
   cases kq with
   | zero => exact absurd HA.out (by simp [node_Symbol.j0])
   | succ kj7 =>
    have H := HA.out
    clear HA
    simp only [node_Symbol.j0] at H
    by_cases c19 : x30_7 = true
    ·
     subst c19
     have H1 : (some false) = some r := by rw [if_pos rfl] at H; exact H
     clear H
     have H := H1
     clear H1
     obtain rfl := Option.some.inj H
     go_wp2
     go_ret
     exact ⟨by first | rfl | (simp [errW_none, errW_some] <;> rfl) | (simp [*, errW_none, errW_some] <;> rfl), by repeat (first | (with_reducible first | exact HB.out | apply below_alloc | apply pw_below_drewN | apply below_drew1) | exact HB.out)⟩
    ·
     replace c19 := Bool.eq_false_iff.mpr c19
     subst c19
     have H1 : (node_Symbol.l0 kj7 a0 (a0.size : Int) 0) = some r := by rw [if_neg (show ¬ (false = true) by decide)] at H; exact H
     clear H
     have H := H1
     clear H1
     have H' := Aside0.mk H
     clear H
     go_wp2
     go_loopg [33] kj7 (fun kq v33 w' => ∃ (x33_2 : Int), v33 = .int .i64 x33_2 ∧ Aside0 (node_Symbol.l0 kq a0 (a0.size : Int) x33_2 = some r) ∧ Aside0 (kq ≤ kj7) ∧ Aside0 (Below w.heap.size w w'))
     case atStart => exact ⟨(0), (by first | rfl | (simp; done) | (simp [*]; done)), H', ⟨Nat.le_refl _⟩, ⟨by repeat (first | (with_reducible first | exact HB.out | apply below_alloc | apply pw_below_drewN | apply below_drew1) | exact HB.out)⟩⟩
     case round =>
      clear H'
      try clear c1
      try clear c2
      try clear c2b0
      try clear c2b1
      try clear p2
      try clear c3
      try clear c3b0
      try clear c3b1
      try clear p4
      try clear q4
      try clear hx4
      try clear qi4
      try clear c6
      try clear c9
      try clear c9b0
      try clear c9b1
      try clear c10
      try clear c10b0
      try clear c10b1
      try clear c11
      try clear c12
      try clear c13
      try clear c19
      try clear p2
      try clear p4
      try clear q4
      obtain ⟨x33_2, rfl, HA, HK2, HB⟩ := hrel
      cases gk with
      | zero => exact absurd HA.out (by simp [node_Symbol.l0])
      | succ k2 =>
       have H := HA.out
       clear HA
       simp only [node_Symbol.l0] at H
       by_cases c20 : x33_2 < (a0.size : Int)
       ·
        rw [if_pos c20] at H
        have c20b0 : decide (x33_2 < (a0.size : Int)) = true := decide_eq_true c20
        clear c20
        by_cases c21 : 0 ≤ x33_2
        ·
         rw [if_pos c21] at H
         have c21b0 : decide (0 ≤ x33_2) = true := decide_eq_true c21
         clear c21
         by_cases c22 : x33_2 < (a0.size : Int)
         ·
          rw [if_pos c22] at H
          have c22b0 : decide (x33_2 < (a0.size : Int)) = true := decide_eq_true c22
          clear c22
          replace H := Option.bind_eq_some_iff.mp H
          obtain ⟨t116, A240, H⟩ := H
          replace H : (if t116 = true then (node_Symbol.l0 k2 a0 (a0.size : Int) (wrap64 (x33_2 + 1))) else (some false)) = some r := H
          have A24 := Aside0.mk A240
          clear A240
          by_cases c25 : t116 = true
          ·
           subst c25
           have H1 : (node_Symbol.l0 k2 a0 (a0.size : Int) (wrap64 (x33_2 + 1))) = some r := by rw [if_pos rfl] at H; exact H
           clear H
           have H := H1
           clear H1
           have H' := Aside0.mk H
           clear H
           have p23 : 0 ≤ (x33_2 : Int) := of_decide_eq_true (by first | (with_reducible assumption) | assumption)
           have q23 : x33_2 < (a0.size : Int) := of_decide_eq_true (by first | (with_reducible assumption) | assumption)
           have hx23 := bt_at a0 x33_2
           replace p23 := eq_true p23
           replace q23 := eq_true q23
           go_wp2_with (first | ((with_reducible refine gate_callee (f := 130) rfl ?_); refine goesL_ (some 39) rfl rfl Tryd.func130 (by kernel_rfl) rfl #[.int .u8 (bt a0 x33_2)] rfl (by (try simp only [List.map_toArray, List.map_cons, List.map_nil]); first | done | rfl | (simp only [List.length_drop, List.length_take]; rfl)) ?_; (with_reducible refine (node_letter.calls (bt a0 x33_2) true _ A24.out).mono ?_); rintro e w' ⟨rfl, ⟨nd, rfl⟩⟩; refine ⟨_, rfl, ?_⟩))
           go_roundg k2
           case measure => have := HJ7.out; have := HK2.out; omega
           case rel => exact ⟨(wrap64 (x33_2 + 1)), (by first | rfl | (simp; done) | (simp [*]; done)), H', ⟨by have := HJ7.out; have := HK2.out; omega⟩, ⟨by repeat (first | (with_reducible first | exact HB.out | apply below_alloc | apply pw_below_drewN | apply below_drew1) | exact HB.out)⟩⟩
          ·
           replace c25 := Bool.eq_false_iff.mpr c25
           subst c25
           have H1 : (some false) = some r := by rw [if_neg (show ¬ (false = true) by decide)] at H; exact H
           clear H
           have H := H1
           clear H1
           obtain rfl := Option.some.inj H
           have p23 : 0 ≤ (x33_2 : Int) := of_decide_eq_true (by first | (with_reducible assumption) | assumption)
           have q23 : x33_2 < (a0.size : Int) := of_decide_eq_true (by first | (with_reducible assumption) | assumption)
           have hx23 := bt_at a0 x33_2
           replace p23 := eq_true p23
           replace q23 := eq_true q23
           go_wp2_with (first | ((with_reducible refine gate_callee (f := 130) rfl ?_); refine goesL_ (some 39) rfl rfl Tryd.func130 (by kernel_rfl) rfl #[.int .u8 (bt a0 x33_2)] rfl (by (try simp only [List.map_toArray, List.map_cons, List.map_nil]); first | done | rfl | (simp only [List.length_drop, List.length_take]; rfl)) ?_; (with_reducible refine (node_letter.calls (bt a0 x33_2) false _ A24.out).mono ?_); rintro e w' ⟨rfl, ⟨nd, rfl⟩⟩; refine ⟨_, rfl, ?_⟩))
           go_ret
           exact ⟨by first | rfl | (simp [errW_none, errW_some] <;> rfl) | (simp [*, errW_none, errW_some] <;> rfl), by repeat (first | (with_reducible first | exact HB.out | apply below_alloc | apply pw_below_drewN | apply below_drew1) | exact HB.out)⟩
         ·
          rw [if_neg c22] at H
          exact absurd H (by simp)
        ·
         rw [if_neg c21] at H
         exact absurd H (by simp)
       ·
        rw [if_neg c20] at H
        have c20b0 : decide (x33_2 < (a0.size : Int)) = false := decide_eq_false c20
        clear c20
        obtain rfl := Option.some.inj H
        go_wp2
        go_ret
        exact ⟨by first | rfl | (simp [errW_none, errW_some] <;> rfl) | (simp [*, errW_none, errW_some] <;> rfl), by repeat (first | (with_reducible first | exact HB.out | apply below_alloc | apply pw_below_drewN | apply below_drew1) | exact HB.out)⟩
def stringslite_Cut.f (a0 : ByteArray) (a1 : ByteArray) : Option (ByteArray × ByteArray × Bool) := (stringslite_Index.f a0 a1).bind fun t117 => (if t117 ≥ 0 then (if 0 ≤ t117 then (if t117 ≤ (a0.size : Int) then (if 0 ≤ (wrap64 (t117 + (a1.size : Int))) then (if (wrap64 (t117 + (a1.size : Int))) ≤ (a0.size : Int) then (some (a0.extract 0 (t117 : Int).toNat, a0.extract ((wrap64 (t117 + (a1.size : Int))) : Int).toNat a0.size, true)) else (none)) else (none)) else (none)) else (none)) else (some (a0, (⟨#[]⟩ : ByteArray), false)))
set_option maxHeartbeats 8000000 in
set_option maxRecDepth 100000 in
theorem stringslite_Cut.calls (a0 : ByteArray) (a1 : ByteArray) (r1 : ByteArray) (r2 : ByteArray) (r3 : Bool) (w : World) (h : stringslite_Cut.f a0 a1 = some (r1, r2, r3)) :
  Calls Tryd.prog 144 #[.string a0, .string a1] w fun e w' => e = .returned (.tuple #[.string r1, .string r2, .bool r3]) ∧ Drawn0 w w' := by
 have H : ((stringslite_Index.f a0 a1).bind fun t117 => (if t117 ≥ 0 then (if 0 ≤ t117 then (if t117 ≤ (a0.size : Int) then (if 0 ≤ (wrap64 (t117 + (a1.size : Int))) then (if (wrap64 (t117 + (a1.size : Int))) ≤ (a0.size : Int) then (some (a0.extract 0 (t117 : Int).toNat, a0.extract ((wrap64 (t117 + (a1.size : Int))) : Int).toNat a0.size, true)) else (none)) else (none)) else (none)) else (none)) else (some (a0, (⟨#[]⟩ : ByteArray), false)))) = some (r1, r2, r3) := h
 clear h
 replace H := Option.bind_eq_some_iff.mp H
 obtain ⟨t117, A30, H⟩ := H
 replace H : (if t117 ≥ 0 then (if 0 ≤ t117 then (if t117 ≤ (a0.size : Int) then (if 0 ≤ (wrap64 (t117 + (a1.size : Int))) then (if (wrap64 (t117 + (a1.size : Int))) ≤ (a0.size : Int) then (some (a0.extract 0 (t117 : Int).toNat, a0.extract ((wrap64 (t117 + (a1.size : Int))) : Int).toNat a0.size, true)) else (none)) else (none)) else (none)) else (none)) else (some (a0, (⟨#[]⟩ : ByteArray), false))) = some (r1, r2, r3) := H
 have A3 := Aside0.mk A30
 clear A30
 by_cases c4 : t117 ≥ 0
 ·
  rw [if_pos c4] at H
  have c4b0 : decide (0 ≤ t117) = true := decide_eq_true c4
  clear c4
  by_cases c5 : 0 ≤ t117
  ·
   rw [if_pos c5] at H
   have c5b0 := eq_true c5
   have c5b1 : decide (0 ≤ t117) = true := decide_eq_true c5
   clear c5
   by_cases c6 : t117 ≤ (a0.size : Int)
   ·
    rw [if_pos c6] at H
    have c6b0 := eq_true c6
    have c6b1 : decide (t117 ≤ (a0.size : Int)) = true := decide_eq_true c6
    clear c6
    obtain ⟨ji7, hji7⟩ : ∃ j_ : Int, (wrap64 (t117 + (a1.size : Int))) = j_ := ⟨_, rfl⟩
    replace H : (if 0 ≤ (ji7) then (if (ji7) ≤ (a0.size : Int) then (some (a0.extract 0 (t117 : Int).toNat, a0.extract ((ji7) : Int).toNat a0.size, true)) else (none)) else (none)) = some (r1, r2, r3) := by first | (rw [hji7] at H; exact H) | (simp only [hji7] at H ⊢; exact H)
    (try rw [hji7] at A3)
    have hji7w : (IntKind.i64.wrap (t117 + (a1.size : Int))) = ji7 := (i64_w _).trans hji7
    by_cases c8 : 0 ≤ (ji7)
    ·
     rw [if_pos c8] at H
     have c8b0 := eq_true c8
     have c8b1 : decide (0 ≤ (ji7)) = true := decide_eq_true c8
     clear c8
     by_cases c9 : (ji7) ≤ (a0.size : Int)
     ·
      rw [if_pos c9] at H
      have c9b0 := eq_true c9
      have c9b1 : decide ((ji7) ≤ (a0.size : Int)) = true := decide_eq_true c9
      clear c9
      simp only [Option.some.injEq, Prod.mk.injEq] at H
      obtain ⟨rfl, rfl, rfl⟩ := H
      go_enter Tryd.func144, Tryd.ntmps144
      go_wp2_with (first | (go_at_call 146; (with_reducible refine (stringslite_Index.calls a0 a1 t117 _ A3.out).mono ?_); rintro e w' ⟨rfl, ⟨nd, rfl⟩⟩; (try first | exact ⟨rfl, _, World.drewN_drewN _ _ _⟩ | exact ⟨rfl, _, Eq.trans (World.drewN_drewN _ _ _) (congrArg (World.drewN _) (Nat.add_assoc _ _ _))⟩)))
      repeat (go_quiet (first | (go_at_call 146; (with_reducible refine (stringslite_Index.calls a0 a1 t117 _ A3.out).mono ?_); rintro e w' ⟨rfl, ⟨nd, rfl⟩⟩; (try first | exact ⟨rfl, _, World.drewN_drewN _ _ _⟩ | exact ⟨rfl, _, Eq.trans (World.drewN_drewN _ _ _) (congrArg (World.drewN _) (Nat.add_assoc _ _ _))⟩))); try go_wp2_with (first | (go_at_call 146; (with_reducible refine (stringslite_Index.calls a0 a1 t117 _ A3.out).mono ?_); rintro e w' ⟨rfl, ⟨nd, rfl⟩⟩; (try first | exact ⟨rfl, _, World.drewN_drewN _ _ _⟩ | exact ⟨rfl, _, Eq.trans (World.drewN_drewN _ _ _) (congrArg (World.drewN _) (Nat.add_assoc _ _ _))⟩))))
      go_ret3
      exact ⟨by first | rfl | (simp; done) | (simp only [← hji7] <;> (first | rfl | simp)) | (simp [*]; done), by repeat (first | exact Drawn0.refl _ | apply Drawn0.step)⟩
     ·
      rw [if_neg c9] at H
      exact absurd H (by simp)
    ·
     rw [if_neg c8] at H
     exact absurd H (by simp)
   ·
    rw [if_neg c6] at H
    exact absurd H (by simp)
  ·
   rw [if_neg c5] at H
   exact absurd H (by simp)
 ·
  rw [if_neg c4] at H
  have c4b0 : decide (0 ≤ t117) = false := decide_eq_false c4
  clear c4
  simp only [Option.some.injEq, Prod.mk.injEq] at H
  obtain ⟨rfl, rfl, rfl⟩ := H
  go_enter Tryd.func144, Tryd.ntmps144
  go_wp2_with (first | (go_at_call 146; (with_reducible refine (stringslite_Index.calls a0 a1 t117 _ A3.out).mono ?_); rintro e w' ⟨rfl, ⟨nd, rfl⟩⟩; (try first | exact ⟨rfl, _, World.drewN_drewN _ _ _⟩ | exact ⟨rfl, _, Eq.trans (World.drewN_drewN _ _ _) (congrArg (World.drewN _) (Nat.add_assoc _ _ _))⟩)))
  repeat (go_quiet (first | (go_at_call 146; (with_reducible refine (stringslite_Index.calls a0 a1 t117 _ A3.out).mono ?_); rintro e w' ⟨rfl, ⟨nd, rfl⟩⟩; (try first | exact ⟨rfl, _, World.drewN_drewN _ _ _⟩ | exact ⟨rfl, _, Eq.trans (World.drewN_drewN _ _ _) (congrArg (World.drewN _) (Nat.add_assoc _ _ _))⟩))); try go_wp2_with (first | (go_at_call 146; (with_reducible refine (stringslite_Index.calls a0 a1 t117 _ A3.out).mono ?_); rintro e w' ⟨rfl, ⟨nd, rfl⟩⟩; (try first | exact ⟨rfl, _, World.drewN_drewN _ _ _⟩ | exact ⟨rfl, _, Eq.trans (World.drewN_drewN _ _ _) (congrArg (World.drewN _) (Nat.add_assoc _ _ _))⟩))))
  go_ret3
  exact ⟨by first | rfl | (simp; done) | (simp [*]; done), by repeat (first | exact Drawn0.refl _ | apply Drawn0.step)⟩
end Go.Proofs.YtagkhoeidjlahaaDoor.G
