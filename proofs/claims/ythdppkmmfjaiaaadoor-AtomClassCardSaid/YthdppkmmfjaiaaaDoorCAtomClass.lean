-- Written by pack2.py, a program of this session: this session's texts and those that the kit's printer wrote for this claim, pruned to what the claims use.
import Derived.Test.YthdppkmmfjaiaaaDoorCAt2
import Derived.Test.YthdppkmmfjaiaaaDoorCAt7
import Derived.Test.YthdppkmmfjaiaaaDoorCAt9
import Derived.Test.YthdppkmmfjaiaaaDoorCAt8
import Derived.Test.YthdppkmmfjaiaaaDoorCAt16
import Derived.Test.YthdppkmmfjaiaaaDoorRows
import Derived.Test.YthdppkmmfjaiaaaDoorTie
import Derived.Test.YthdppkmmfjaiaaaDoorCards
import Derived.WalkKit
import Derived.ProofKit
import Derived.OpenShut
import Derived.ShutString
import Derived.ChangeOld
import Derived.Below
import Derived.SizedLaws
import Derived.LaidMore
import Derived.Lay
import Derived.SevenTiedAt
import Derived.Stop.Joined
namespace Go.Proofs.YthdppkmmfjaiaaaDoor.G
open Go.RowKit Go.Proofs.YthdppkmmfjaiaaaDoorW.PrintWords Go.Proofs.YthdppkmmfjaiaaaDoorW.PrintLast Go.Proofs.YthdppkmmfjaiaaaDoorW.PrintMore
attribute [local go_sem] max2_int min2_int max_two min_two max_three min_three max_four min_four
set_option linter.unusedVariables false
set_option linter.unusedSimpArgs false
def vinculumlaw26_AtomClass.j0 : Nat → List (S59) → Bool → Int → ByteArray → Int → List (S25) → Option (Bool)
  | 0, _, _, _, _, _, _ => none
  | k + 1, x0, x14, x285000, x285001, x285002, x285003 => if x14 = true then (some true) else ((atom_Class.f k x0 x285000 x285001 x285002 x285003).bind fun t287 => ((vinculumref26_Class.f k x0 x285000 x285001 x285002 x285003).bind fun t288 => (some (t287 == t288))))
def vinculumlaw26_AtomClass.f (k : Nat) (l0 : List (S59)) (a1_0 : Int) (a1_1 : ByteArray) (a1_2 : Int) (l1_3 : List (S25)) : Option (Bool) := (vinculumlaw26_awake.f k).bind fun t285 => (if t285 = true then (if (l0.length : Int) > 300 then (vinculumlaw26_AtomClass.j0 k l0 true a1_0 a1_1 a1_2 l1_3) else ((vinculumref09_Few.f k a1_0 a1_1 a1_2 l1_3 300).bind fun t286 => (vinculumlaw26_AtomClass.j0 k l0 (!t286) a1_0 a1_1 a1_2 l1_3))) else (some false))
def vinculumlaw26_AtomClass.T5 : Bool × List (List Nat × List Nat) := (true, [([], []), ([], []), ([0, 1], [0, 1]), ([], []), ([], []), ([3, 4, 2], [3, 4]), ([2, 5], [2, 5]), ([6, 5, 0, 1, 2, 3, 4, 5, 6], [6])])
def vinculumlaw26_AtomClass.B5 : List Nat := [0, 0, 3, 0, 0, 31, 63, 127]
theorem vinculumlaw26_AtomClass.tab5 : rtab .any (opsOf Tryd.f3 5) = vinculumlaw26_AtomClass.T5 := by kernel_rfl
theorem vinculumlaw26_AtomClass.bits5 : waitsOk vinculumlaw26_AtomClass.T5.2 vinculumlaw26_AtomClass.B5 = true := by kernel_rfl
set_option maxHeartbeats 8000000 in
set_option maxRecDepth 100000 in
theorem vinculumlaw26_AtomClass.calls (k : Nat) (A0 : Option Addr) (c0 : Nat) (l0 : List (S59)) (a1_0 : Int) (a1_1 : ByteArray) (a1_2 : Int) (A1_3 : Option Addr) (c1_3 : Nat) (l1_3 : List (S25)) (r : Bool) (w : World) (hr0 : Kd.C k59 w A0 l0.length l0) (hc0 : l0.length ≤ c0) (hr1_3 : Kd.C k25 w A1_3 l1_3.length l1_3) (hc1_3 : l1_3.length ≤ c1_3) (h : vinculumlaw26_AtomClass.f k l0 a1_0 a1_1 a1_2 l1_3 = some r) :
    Calls Tryd.prog 3 #[.slice A0 l0.length c0, .agg #[.int .i64 a1_0, .string a1_1, .int .i64 a1_2, .slice A1_3 l1_3.length c1_3]] w fun e w' => e = .returned (.bool r) ∧ Below w.heap.size w w' := by
  have hu25 := Tryd.underlying25
  have HR0 := Aside0.mk hr0
  have HC0 := Aside0.mk hc0
  clear hr0 hc0
  have HR1_3 := Aside0.mk hr1_3
  have HC1_3 := Aside0.mk hc1_3
  clear hr1_3 hc1_3
  have HB := Aside0.mk (Below.refl w.heap.size w)
  have H : ((vinculumlaw26_awake.f k).bind fun t285 => (if t285 = true then (if (l0.length : Int) > 300 then (vinculumlaw26_AtomClass.j0 k l0 true a1_0 a1_1 a1_2 l1_3) else ((vinculumref09_Few.f k a1_0 a1_1 a1_2 l1_3 300).bind fun t286 => (vinculumlaw26_AtomClass.j0 k l0 (!t286) a1_0 a1_1 a1_2 l1_3))) else (some false))) = some r := h
  clear h
  replace H := Option.bind_eq_some_iff.mp H
  obtain ⟨t285, A30, H⟩ := H
  replace H : (if t285 = true then (if (l0.length : Int) > 300 then (vinculumlaw26_AtomClass.j0 k l0 true a1_0 a1_1 a1_2 l1_3) else ((vinculumref09_Few.f k a1_0 a1_1 a1_2 l1_3 300).bind fun t286 => (vinculumlaw26_AtomClass.j0 k l0 (!t286) a1_0 a1_1 a1_2 l1_3))) else (some false)) = some r := H
  have A3 := Aside0.mk A30
  clear A30
  by_cases c4 : t285 = true
  · subst c4
    have H1 : (if (l0.length : Int) > 300 then (vinculumlaw26_AtomClass.j0 k l0 true a1_0 a1_1 a1_2 l1_3) else ((vinculumref09_Few.f k a1_0 a1_1 a1_2 l1_3 300).bind fun t286 => (vinculumlaw26_AtomClass.j0 k l0 (!t286) a1_0 a1_1 a1_2 l1_3))) = some r := by rw [if_pos rfl] at H; exact H
    clear H
    have H := H1
    clear H1
    have HC5 := Aside0.mk H
    clear H
    go_enter Tryd.func3, Tryd.ntmps3
    go_upto_region 3 with (first | ((with_reducible refine gate_dst (N := 3) rfl ?_); refine box_event ?hg (N := 3) ?hd (cs := #[.int .i64 a1_0, .string a1_1, .int .i64 a1_2, .slice A1_3 l1_3.length c1_3]) (t := 25) ?hr ?_; (case hd => rfl); (case hg => rfl); (case hr => first | (go_simp; done) | (go_simp; rfl)); intro gb284 hg w6 hbox hb; have n0_ := Aside0.mk (below_step (by repeat (first | (with_reducible first | exact HB.out | apply below_alloc | apply pw_below_drewN | apply below_drew1) | exact HB.out)) hb); have n1_ := Aside0.mk (hbox); have n2_ := Aside0.mk ((by rw [hg]; exact (below_size (by repeat (first | (with_reducible first | exact HB.out | apply below_alloc | apply pw_below_drewN | apply below_drew1) | exact HB.out))) : w.heap.size ≤ gb284)); have n3_ := Aside0.mk ((by rw [hg]; exact (below_size (by repeat (first | (with_reducible first | exact HB.out | apply below_alloc | apply pw_below_drewN | apply below_drew1) | exact HB.out))) : w.heap.size ≤ gb284)); clear HB; have HB := n0_; have BK284 := n1_; have GW284 := n2_; have GE284 := n3_; clear n0_ n1_ n2_ n3_; clear hb hbox hg) | ((with_reducible refine gate_callee (f := 9) rfl ?_); refine goesL_ (some 5) rfl rfl Tryd.func9 (by kernel_rfl) rfl #[] rfl (by (try simp only [List.map_toArray, List.map_cons, List.map_nil]); first | done | rfl | (simp only [List.length_drop, List.length_take]; rfl)) ?_; (with_reducible refine (vinculumlaw26_awake.calls k  true _ A3.out).mono ?_); rintro e w7 ⟨rfl, hb⟩; refine ⟨_, rfl, ?_⟩; have n0_ := Aside0.mk (blk_below (g := gb284) (o := .cells #[.int .i64 a1_0, .string a1_1, .int .i64 a1_2, .slice A1_3 l1_3.length c1_3] 25 (0, 0)) (by (with_reducible repeat (first | refine blk_drewN ?_ _ | refine blk_drew ?_ | refine blk_alloc ?_ _)); exact BK284.out) hb); have n1_ := Aside0.mk (below_step (by repeat (first | (with_reducible first | exact HB.out | apply below_alloc | apply pw_below_drewN | apply below_drew1 | refine below_set ?_ GE284.out) | exact HB.out)) hb); clear BK284; clear HB; have BK284 := n0_; have HB := n1_; clear n0_ n1_; (try clear hb); (try clear hb2); (try clear hk); (try clear hi)))
    (try simp only [Act.put, List.setIfInBounds_toArray, List.set_cons_zero, List.set_cons_succ])
    go_cut [14] (fun v14 wc => ∃ (kq : Nat) (x14_4 : Bool), v14 = .bool x14_4 ∧ Aside0 (vinculumlaw26_AtomClass.j0 kq l0 x14_4 a1_0 a1_1 a1_2 l1_3 = some r) ∧ Aside0 (kq ≤ k) ∧ Aside0 (wc.heap[gb284]? = some (.cells #[.int .i64 a1_0, .string a1_1, .int .i64 a1_2, (.slice A1_3 l1_3.length c1_3)] 25 (0, 0))) ∧ Aside0 (Below w.heap.size w wc))
    case first =>
      have H := HC5.out
      clear HC5
      by_cases c8 : (l0.length : Int) > 300
      · rw [if_pos c8] at H
        have c8b0 : decide (300 < (l0.length : Int)) = true := decide_eq_true c8
        have c8b1 : decide (300 < l0.length) = true := decide_eq_true (by omega)
        clear c8
        (first | rw [c8b0] | (simp only [i64_w, i32_w]; rw [c8b0]) | skip)
        have H' := Aside0.mk H
        clear H
        go_wp2
        go_meet
        case rel => exact ⟨_, (true), (by first | rfl | (simp; done) | (simp [*]; done)), H', ⟨by first | omega | exact Nat.le_refl _⟩, ⟨by (with_reducible repeat (first | refine blk_drewN ?_ _ | refine blk_drew ?_ | refine blk_alloc ?_ _)); exact BK284.out⟩, ⟨by repeat (first | (with_reducible first | exact HB.out | apply below_alloc | apply pw_below_drewN | apply below_drew1 | refine below_set ?_ GE284.out) | exact HB.out)⟩⟩
      · rw [if_neg c8] at H
        have c8b0 : decide (300 < (l0.length : Int)) = false := decide_eq_false c8
        have c8b1 : decide (300 < l0.length) = false := decide_eq_false (by omega)
        clear c8
        (first | rw [c8b0] | (simp only [i64_w, i32_w]; rw [c8b0]) | skip)
        replace H := Option.bind_eq_some_iff.mp H
        obtain ⟨t286, A90, H⟩ := H
        replace H : (vinculumlaw26_AtomClass.j0 k l0 (!t286) a1_0 a1_1 a1_2 l1_3) = some r := H
        have A9 := Aside0.mk A90
        clear A90
        have H' := Aside0.mk H
        clear H
        have hcz10_0 : w7.cell? ⟨gb284, 0, none⟩ = some (.int .i64 a1_0) := (blk_cell BK284.out 0).trans rfl
        have hcz10_1 : w7.cell? ⟨gb284, 1, none⟩ = some (.string a1_1) := (blk_cell BK284.out 1).trans rfl
        have hcz10_2 : w7.cell? ⟨gb284, 2, none⟩ = some (.int .i64 a1_2) := (blk_cell BK284.out 2).trans rfl
        have hcz10_3 : w7.cell? ⟨gb284, 3, none⟩ = some (.slice A1_3 l1_3.length c1_3) := (blk_cell BK284.out 3).trans rfl
        have hfz10_0 := blk_frozen BK284.out 0
        have hfz10_1 := blk_frozen BK284.out 1
        have hfz10_2 := blk_frozen BK284.out 2
        have hfz10_3 := blk_frozen BK284.out 3
        go_wp2_with (first | (go_at_call 10; (with_reducible refine (vinculumref09_Few.calls k a1_0 a1_1 a1_2 _ _ l1_3 300 t286 _ ?side1 ?side2 A9.out).mono ?_); (case side1 => repeat (first | exact (Kd.C_below HR1_3.out HB.out) | (with_reducible refine Kd.C_alloc ?_ _) | (with_reducible refine Kd.C_drewN ?_ _) | (with_reducible refine Kd.C_drew ?_))); (case side2 => exact HC1_3.out); rintro e w11 ⟨rfl, hb⟩; have n0_ := Aside0.mk (blk_below (g := gb284) (o := .cells #[.int .i64 a1_0, .string a1_1, .int .i64 a1_2, .slice A1_3 l1_3.length c1_3] 25 (0, 0)) (by (with_reducible repeat (first | refine blk_drewN ?_ _ | refine blk_drew ?_ | refine blk_alloc ?_ _)); exact BK284.out) hb); have n1_ := Aside0.mk (below_step (by repeat (first | (with_reducible first | exact HB.out | apply below_alloc | apply pw_below_drewN | apply below_drew1 | refine below_set ?_ GE284.out) | exact HB.out)) hb); clear BK284; clear HB; have BK284 := n0_; have HB := n1_; clear n0_ n1_; (try clear hb); (try clear hb2); (try clear hk); (try clear hi)))
        go_meet
        case rel => exact ⟨_, (!t286), (by first | rfl | (simp; done) | (simp [*]; done)), H', ⟨by first | omega | exact Nat.le_refl _⟩, ⟨by (with_reducible repeat (first | refine blk_drewN ?_ _ | refine blk_drew ?_ | refine blk_alloc ?_ _)); exact BK284.out⟩, ⟨by repeat (first | (with_reducible first | exact HB.out | apply below_alloc | apply pw_below_drewN | apply below_drew1 | refine below_set ?_ GE284.out) | exact HB.out)⟩⟩
    case rest =>
      clear HC5
      try clear c1
      try clear p2
      try clear c3
      try clear c4
      try clear c8
      try clear c8b0
      try clear c8b1
      try clear c9
      try clear hcz10_0
      try clear hcz10_1
      try clear hcz10_2
      try clear hcz10_3
      try clear hfz10_0
      try clear hfz10_1
      try clear hfz10_2
      try clear hfz10_3
      obtain ⟨kq, x14_4, rfl, HA, HJ4, BK284, HB⟩ := hcut
      cases kq with
      | zero => exact absurd HA.out (by simp [vinculumlaw26_AtomClass.j0])
      | succ kj4 =>
        have H := HA.out
        clear HA
        simp only [vinculumlaw26_AtomClass.j0] at H
        by_cases c12 : x14_4 = true
        · subst c12
          have H1 : (some true) = some r := by rw [if_pos rfl] at H; exact H
          clear H
          have H := H1
          clear H1
          obtain rfl := Option.some.inj H
          go_wp2
          go_ret
          exact ⟨by first | rfl | (simp [errW_none, errW_some] <;> rfl) | (simp [*, errW_none, errW_some] <;> rfl), by repeat (first | (with_reducible first | exact HB.out | apply below_alloc | apply pw_below_drewN | apply below_drew1 | refine below_set ?_ GE284.out) | exact HB.out)⟩
        · replace c12 := Bool.eq_false_iff.mpr c12
          subst c12
          have H1 : ((atom_Class.f kj4 l0 a1_0 a1_1 a1_2 l1_3).bind fun t287 => ((vinculumref26_Class.f kj4 l0 a1_0 a1_1 a1_2 l1_3).bind fun t288 => (some (t287 == t288)))) = some r := by rw [if_neg (show ¬ (false = true) by decide)] at H; exact H
          clear H
          have H := H1
          clear H1
          replace H := Option.bind_eq_some_iff.mp H
          obtain ⟨t287, A130, H⟩ := H
          replace H : ((vinculumref26_Class.f kj4 l0 a1_0 a1_1 a1_2 l1_3).bind fun t288 => (some (t287 == t288))) = some r := H
          have A13 := Aside0.mk A130
          clear A130
          replace H := Option.bind_eq_some_iff.mp H
          obtain ⟨t288, A140, H⟩ := H
          replace H : (some (t287 == t288)) = some r := H
          have A14 := Aside0.mk A140
          clear A140
          obtain rfl := Option.some.inj H
          try go_wp2
          have n0_ := Aside0.mk (blk_drew BK284.out)
          have n1_ := Aside0.mk (below_drew1 HB.out)
          clear BK284
          clear HB
          have BK284 := n0_
          have HB := n1_
          clear n0_ n1_
          refine start_ (n := 8) (S := fun w' => w'.cell? ⟨gb284, 0, none⟩ = some (.int .i64 a1_0) ∧ w'.cell? ⟨gb284, 1, none⟩ = some (.string a1_1) ∧ w'.cell? ⟨gb284, 2, none⟩ = some (.int .i64 a1_2) ∧ w'.cell? ⟨gb284, 3, none⟩ = some (.slice A1_3 l1_3.length c1_3)) (ds := []) #[false, false, false, false, false, false, false, false] (by kernel_rfl) rfl rfl ⟨(blk_cell BK284.out 0).trans rfl, (blk_cell BK284.out 1).trans rfl, (blk_cell BK284.out 2).trans rfl, (blk_cell BK284.out 3).trans rfl⟩ (fun hHeld => ?_); refine with_tabW vinculumlaw26_AtomClass.tab5 vinculumlaw26_AtomClass.bits5 (fun HT_ HW_ => ?_)
          generalize wc.drew = w15 at BK284 HB hHeld ⊢
          refine pure_ (i := 0) (N := some 15) (v := ?_) (a' := ?_) #[true, false, false, false, false, false, false, false] rfl rfl (any_of HT_.out (by kernel_rfl)) (fun _ _ _ h => h) (Or.inl ⟨by rfl, ?_⟩) ?_ ?_
          rotate_left
          · intro w'
            go_simp
            first | with_reducible rfl | (rw [own_len_N ?hl_ ?hu_]; (case hl_ => assumption); (case hu_ => kernel_rfl); (try with_reducible rfl)) | (rw [own_len_R ?hl_ ?hu_]; (case hl_ => assumption); (case hu_ => kernel_rfl); (try with_reducible rfl))
          rotate_left
          · simp only [Act.put, List.setIfInBounds_toArray, List.set_cons_zero, List.set_cons_succ, i64_w, i32_w]
            rfl
          refine pure_ (i := 3) (N := some 18) (v := ?_) (a' := ?_) #[true, false, false, true, false, false, false, false] rfl rfl (any_of HT_.out (by kernel_rfl)) (fun _ _ _ h => h) (Or.inl ⟨by rfl, ?_⟩) ?_ ?_
          rotate_left
          · intro w'
            go_simp
            first | with_reducible rfl | (rw [own_len_N ?hl_ ?hu_]; (case hl_ => assumption); (case hu_ => kernel_rfl); (try with_reducible rfl)) | (rw [own_len_R ?hl_ ?hu_]; (case hl_ => assumption); (case hu_ => kernel_rfl); (try with_reducible rfl))
          rotate_left
          · simp only [Act.put, List.setIfInBounds_toArray, List.set_cons_zero, List.set_cons_succ, i64_w, i32_w]
            rfl
          refine take_ (i := 1) (N := some 16) (v := ?_) (a' := ?_) #[true, true, false, true, false, false, false, false] rfl rfl (take_ofW HT_.out HW_.out (by kernel_rfl)) (fun _ _ _ h => h) (Or.inl ⟨by rfl, ?_⟩) hHeld ?_ ?_
          rotate_left
          · rintro w' ⟨s0, s1, s2, s3⟩
            go_simp
            with_reducible rfl
          rotate_left
          · simp only [Act.put, List.setIfInBounds_toArray, List.set_cons_zero, List.set_cons_succ, i64_w, i32_w]
            rfl
          refine take_ (i := 4) (N := some 19) (v := ?_) (a' := ?_) #[true, true, false, true, true, false, false, false] rfl rfl (take_ofW HT_.out HW_.out (by kernel_rfl)) (fun _ _ _ h => h) (Or.inl ⟨by rfl, ?_⟩) hHeld ?_ ?_
          rotate_left
          · rintro w' ⟨s0, s1, s2, s3⟩
            go_simp
            with_reducible rfl
          rotate_left
          · simp only [Act.put, List.setIfInBounds_toArray, List.set_cons_zero, List.set_cons_succ, i64_w, i32_w]
            rfl
          refine one_ (i := 2) (N := some 17) #[true, true, true, true, true, false, false, false] rfl rfl (one_of HT_.out (by kernel_rfl)) (by decide) (fun K hK => ?_)
          refine goes_ Tryd.func11 (by kernel_rfl) rfl #[.slice A0 l0.length c0, .agg #[.int .i64 a1_0, .string a1_1, .int .i64 a1_2, .slice A1_3 l1_3.length c1_3]] (by rfl) rfl rfl (by (try simp only [List.map_toArray, List.map_cons, List.map_nil]); first | done | rfl | (simp only [List.length_drop, List.length_take]; rfl)) ?_
          with_reducible refine (atom_Class.calls kj4 _ _ l0 a1_0 a1_1 a1_2 _ _ l1_3 t287 _ ?side1 ?side2 ?side3 ?side4 A13.out).mono ?_
          (case side1 => repeat (first | exact (Kd.C_below HR0.out HB.out) | (with_reducible refine Kd.C_alloc ?_ _) | (with_reducible refine Kd.C_drewN ?_ _) | (with_reducible refine Kd.C_drew ?_)))
          (case side2 => exact HC0.out)
          (case side3 => repeat (first | exact (Kd.C_below HR1_3.out HB.out) | (with_reducible refine Kd.C_alloc ?_ _) | (with_reducible refine Kd.C_drewN ?_ _) | (with_reducible refine Kd.C_drew ?_)))
          (case side4 => exact HC1_3.out)
          rintro e w16 ⟨rfl, hb⟩
          refine ⟨_, rfl, ?_⟩
          have n0_ := Aside0.mk (blk_below (g := gb284) (o := .cells #[.int .i64 a1_0, .string a1_1, .int .i64 a1_2, .slice A1_3 l1_3.length c1_3] 25 (0, 0)) (by (with_reducible repeat (first | refine blk_drewN ?_ _ | refine blk_drew ?_ | refine blk_alloc ?_ _)); exact BK284.out) hb)
          have n1_ := Aside0.mk (below_step (by repeat (first | (with_reducible first | exact HB.out | apply below_alloc | apply pw_below_drewN | apply below_drew1 | refine below_set ?_ GE284.out) | exact HB.out)) hb)
          clear BK284
          clear HB
          have BK284 := n0_
          have HB := n1_
          clear n0_ n1_
          (try clear hb)
          (try clear hb2)
          (try clear hk)
          (try clear hi)
          refine hK.out _ _ ⟨(blk_cell BK284.out 0).trans rfl, (blk_cell BK284.out 1).trans rfl, (blk_cell BK284.out 2).trans rfl, (blk_cell BK284.out 3).trans rfl⟩ (fun hHeld => ?_)
          clear hK K
          refine norm_ (a' := ?_) ?_ ?_
          rotate_left
          · show Act.put _ (some 17) _ = _
            simp only [Act.put, List.setIfInBounds_toArray, List.set_cons_zero, List.set_cons_succ, i64_w, i32_w]
            rfl
          refine one_ (i := 5) (N := some 20) #[true, true, true, true, true, true, false, false] rfl rfl (one_of HT_.out (by kernel_rfl)) (by decide) (fun K hK => ?_)
          refine goes_ Tryd.func12 (by kernel_rfl) rfl #[.slice A0 l0.length c0, .agg #[.int .i64 a1_0, .string a1_1, .int .i64 a1_2, .slice A1_3 l1_3.length c1_3]] (by rfl) rfl rfl (by (try simp only [List.map_toArray, List.map_cons, List.map_nil]); first | done | rfl | (simp only [List.length_drop, List.length_take]; rfl)) ?_
          with_reducible refine (vinculumref26_Class.calls kj4 _ _ l0 a1_0 a1_1 a1_2 _ _ l1_3 t288 _ ?side1 ?side2 ?side3 ?side4 A14.out).mono ?_
          (case side1 => repeat (first | exact (Kd.C_below HR0.out HB.out) | (with_reducible refine Kd.C_alloc ?_ _) | (with_reducible refine Kd.C_drewN ?_ _) | (with_reducible refine Kd.C_drew ?_)))
          (case side2 => exact HC0.out)
          (case side3 => repeat (first | exact (Kd.C_below HR1_3.out HB.out) | (with_reducible refine Kd.C_alloc ?_ _) | (with_reducible refine Kd.C_drewN ?_ _) | (with_reducible refine Kd.C_drew ?_)))
          (case side4 => exact HC1_3.out)
          rintro e w17 ⟨rfl, hb⟩
          refine ⟨_, rfl, ?_⟩
          have n0_ := Aside0.mk (blk_below (g := gb284) (o := .cells #[.int .i64 a1_0, .string a1_1, .int .i64 a1_2, .slice A1_3 l1_3.length c1_3] 25 (0, 0)) (by (with_reducible repeat (first | refine blk_drewN ?_ _ | refine blk_drew ?_ | refine blk_alloc ?_ _)); exact BK284.out) hb)
          have n1_ := Aside0.mk (below_step (by repeat (first | (with_reducible first | exact HB.out | apply below_alloc | apply pw_below_drewN | apply below_drew1 | refine below_set ?_ GE284.out) | exact HB.out)) hb)
          clear BK284
          clear HB
          have BK284 := n0_
          have HB := n1_
          clear n0_ n1_
          (try clear hb)
          (try clear hb2)
          (try clear hk)
          (try clear hi)
          refine hK.out _ _ ⟨(blk_cell BK284.out 0).trans rfl, (blk_cell BK284.out 1).trans rfl, (blk_cell BK284.out 2).trans rfl, (blk_cell BK284.out 3).trans rfl⟩ (fun hHeld => ?_)
          clear hK K
          refine norm_ (a' := ?_) ?_ ?_
          rotate_left
          · show Act.put _ (some 20) _ = _
            simp only [Act.put, List.setIfInBounds_toArray, List.set_cons_zero, List.set_cons_succ, i64_w, i32_w]
            rfl
          refine pure_ (i := 6) (N := some 21) (v := ?_) (a' := ?_) #[true, true, true, true, true, true, true, false] rfl rfl (any_of HT_.out (by kernel_rfl)) (fun _ _ _ h => h) (Or.inl ⟨by rfl, ?_⟩) ?_ ?_
          rotate_left
          · intro w'
            go_simp
            first | with_reducible rfl | (rw [own_len_N ?hl_ ?hu_]; (case hl_ => assumption); (case hu_ => kernel_rfl); (try with_reducible rfl)) | (rw [own_len_R ?hl_ ?hu_]; (case hl_ => assumption); (case hu_ => kernel_rfl); (try with_reducible rfl))
          rotate_left
          · simp only [Act.put, List.setIfInBounds_toArray, List.set_cons_zero, List.set_cons_succ, i64_w, i32_w]
            rfl
          refine pure_ (i := 7) (N := some 4) (v := ?_) (a' := ?_) #[true, true, true, true, true, true, true, true] rfl rfl (any_of HT_.out (by kernel_rfl)) (fun _ _ _ h => h) (Or.inl ⟨by rfl, ?_⟩) ?_ ?_
          rotate_left
          · intro w'
            go_simp
            first | with_reducible rfl | (rw [own_len_N ?hl_ ?hu_]; (case hl_ => assumption); (case hu_ => kernel_rfl); (try with_reducible rfl)) | (rw [own_len_R ?hl_ ?hu_]; (case hl_ => assumption); (case hu_ => kernel_rfl); (try with_reducible rfl))
          rotate_left
          · simp only [Act.put, List.setIfInBounds_toArray, List.set_cons_zero, List.set_cons_succ, i64_w, i32_w]
            rfl
          refine done_ (done_of HT_.out (by kernel_rfl)) ?_
          try go_wp2
          go_ret
          exact ⟨by first | rfl | (simp [errW_none, errW_some] <;> rfl) | (simp [*, errW_none, errW_some] <;> rfl), by repeat (first | (with_reducible first | exact HB.out | apply below_alloc | apply pw_below_drewN | apply below_drew1 | refine below_set ?_ GE284.out) | exact HB.out)⟩
  · replace c4 := Bool.eq_false_iff.mpr c4
    subst c4
    have H1 : (some false) = some r := by rw [if_neg (show ¬ (false = true) by decide)] at H; exact H
    clear H
    have H := H1
    clear H1
    obtain rfl := Option.some.inj H
    go_enter Tryd.func3, Tryd.ntmps3
    go_wp2_with (first | ((with_reducible refine gate_dst (N := 3) rfl ?_); refine box_event ?hg (N := 3) ?hd (cs := #[.int .i64 a1_0, .string a1_1, .int .i64 a1_2, .slice A1_3 l1_3.length c1_3]) (t := 25) ?hr ?_; (case hd => rfl); (case hg => rfl); (case hr => first | (go_simp; done) | (go_simp; rfl)); intro gb284 hg w18 hbox hb; have n0_ := Aside0.mk (below_step (by repeat (first | (with_reducible first | exact HB.out | apply below_alloc | apply pw_below_drewN | apply below_drew1) | exact HB.out)) hb); have n1_ := Aside0.mk (hbox); have n2_ := Aside0.mk ((by rw [hg]; exact (below_size (by repeat (first | (with_reducible first | exact HB.out | apply below_alloc | apply pw_below_drewN | apply below_drew1) | exact HB.out))) : w.heap.size ≤ gb284)); have n3_ := Aside0.mk ((by rw [hg]; exact (below_size (by repeat (first | (with_reducible first | exact HB.out | apply below_alloc | apply pw_below_drewN | apply below_drew1) | exact HB.out))) : w.heap.size ≤ gb284)); clear HB; have HB := n0_; have BK284 := n1_; have GW284 := n2_; have GE284 := n3_; clear n0_ n1_ n2_ n3_; clear hb hbox hg) | ((with_reducible refine gate_callee (f := 9) rfl ?_); refine goesL_ (some 5) rfl rfl Tryd.func9 (by kernel_rfl) rfl #[] rfl (by (try simp only [List.map_toArray, List.map_cons, List.map_nil]); first | done | rfl | (simp only [List.length_drop, List.length_take]; rfl)) ?_; (with_reducible refine (vinculumlaw26_awake.calls k  false _ A3.out).mono ?_); rintro e w19 ⟨rfl, hb⟩; refine ⟨_, rfl, ?_⟩; have n0_ := Aside0.mk (blk_below (g := gb284) (o := .cells #[.int .i64 a1_0, .string a1_1, .int .i64 a1_2, .slice A1_3 l1_3.length c1_3] 25 (0, 0)) (by (with_reducible repeat (first | refine blk_drewN ?_ _ | refine blk_drew ?_ | refine blk_alloc ?_ _)); exact BK284.out) hb); have n1_ := Aside0.mk (below_step (by repeat (first | (with_reducible first | exact HB.out | apply below_alloc | apply pw_below_drewN | apply below_drew1 | refine below_set ?_ GE284.out) | exact HB.out)) hb); clear BK284; clear HB; have BK284 := n0_; have HB := n1_; clear n0_ n1_; (try clear hb); (try clear hb2); (try clear hk); (try clear hi)))
    go_ret
    exact ⟨by first | rfl | (simp [errW_none, errW_some] <;> rfl) | (simp [*, errW_none, errW_some] <;> rfl), by repeat (first | (with_reducible first | exact HB.out | apply below_alloc | apply pw_below_drewN | apply below_drew1 | refine below_set ?_ GE284.out) | exact HB.out)⟩
end Go.Proofs.YthdppkmmfjaiaaaDoor.G
namespace Go.Proofs.YthdppkmmfjaiaaaDoor.G.Pure
open Go.Proofs.YthdppkmmfjaiaaaDoorW.PrintWords Go.RowKit
set_option linter.unusedVariables false
set_option linter.unusedSimpArgs false
theorem AtomClass (d : List S59) (x : S25) (ho : OkL OkEntry d) (hx : OkNode x) : ∃ k, vinculumlaw26_AtomClass.f k d x.f0 x.f1 x.f2 x.f3 = some true := by
  apply Ev.rounds
  unfold vinculumlaw26_AtomClass.f
  have jt : Ev (fun k => vinculumlaw26_AtomClass.j0 k d true x.f0 x.f1 x.f2 x.f3) true := Ev.step (fun k => by rw [vinculumlaw26_AtomClass.j0]) (ev_if (fun _ => Ev.now _) fun h => absurd rfl h)
  refine ev_bind awake26_ev ?_
  refine ev_if (fun _ => ?_) fun h => absurd rfl h
  refine ev_if (fun _ => jt) fun hd => ?_
  refine ev_bind (few_ev x hx 300 (by omega) (by omega)) ?_
  by_cases hc : (cnt x : Int) ≤ 300
  · rw [decide_eq_true hc]
    refine Ev.step (fun k => by rw [vinculumlaw26_AtomClass.j0]) ?_
    refine ev_if (fun h => by cases h) fun _ => ?_
    refine ev_bind (pClass_ev d (by omega) x) ?_
    refine ev_bind (rClass_ev d (by omega) _ x (Nat.le_refl _)) (ev_now (by simp))
  · rw [decide_eq_false hc]; exact jt
end Go.Proofs.YthdppkmmfjaiaaaDoor.G.Pure
namespace Go.Proofs.YthdppkmmfjaiaaaDoor.atomClass
open Go.ChangeShapes Go.WideShapes Go.ChangeAt Go.RowKit G
set_option linter.unusedVariables false
theorem own : ownKnob Tryd.prog.godebug = none := by kernel_rfl
theorem laidOut : laidOutB Tryd.prog = true := by kernel_rfl
set_option maxRecDepth 100000 in
theorem lifted (os : Os) (started : os.Started) (H : Type) (enc : TypeId × Value → H) :
    ReturnsInHanded {} Tryd.checked os 3 .any (fun w args => (Rows.atomClassSpec.pre enc Tryd.prog Tryd.f3 Rows.atomClassRow.domain false w args ∧ laidMetH Tryd.prog Rows.atomClassRow.laid w) ∧ sizedMet enc Tryd.prog Tryd.f3 (OpenSpec.ofChange Rows.atomClassSpec) false w args)
      (Rows.atomClassSpec.post enc Tryd.prog Tryd.f3 false true false false) := by
  refine returnsInHanded_of_change_and (C := Tryd.checked) (X := fun w _ => laidMetH Tryd.prog Rows.atomClassRow.laid w) (fun _ _ _ hh h => h.of_heap hh) own started (by kernel_rfl) Tryd.func3
    (ChangeSpec.witness_shaped (enc := enc) (C := Tryd.checked) (os := os) (X := fun w _ => laidMetH Tryd.prog Rows.atomClassRow.laid w) false (World.laidAll Tryd.prog os Rows.atomClassRow.laid) #[.slice none 0 0, .agg #[.int .i64 0, .string ⟨#[]⟩, .int .i64 0, .slice none 0 0]] 8 (World.laidAll_os _ _ _)
      (World.shaped_of_ZipB (by kernel_rfl) (by kernel_rfl)) (by kernel_rfl) (by kernel_rfl) (by kernel_rfl)
      (by rw [MakeChecks.laidMetH_plain _ _ _ (by kernel_rfl)]; exact laidMet_laidAll _ (by kernel_rfl) (by kernel_rfl))) ?_
  intro W base args ds gs before hval0 hW hc _ hL _
  have hval : ∀ (j : Nat) t v, Tryd.f3.params[j]? = some t → args[j]? = some v → Value.okWide Tryd.prog W .any base t v := hval0
  have hW' := hW
  obtain ⟨p, q, hA0, hV, rfl, _, _⟩ := hW
  have hA : DataW.TrodAll enc Tryd.prog W 0 (fun _ => true) true Tryd.f3.params.toList args.toList ds p := hA0
  rw [Tryd.params3] at hA hval
  obtain ⟨v0, vs0, d0, ds0, p0, q0, hargs, rfl, rfl, h0, r0⟩ := trodAll_cons hA
  obtain ⟨v1, vs1, d1, ds1, p1, q1, rfl, rfl, rfl, h1, r1⟩ := trodAll_cons r0
  obtain ⟨rfl, rfl, rfl⟩ := trodAll_nil r1
  obtain rfl : args = #[v0, v1] := by cases args; simp_all
  obtain ⟨rfl, rfl⟩ := trodVars_none hV
  have k0 := h0
  have lt0 : ∀ x ∈ p0, x.block < W.heap.size := by obtain ⟨m, hm⟩ := k0; exact DataW.trod_lt m _ _ _ hm
  obtain ⟨x0, A0, c0, rfl, le0, C0, o0⟩ := entries_arg (hval 0 22 v0 rfl rfl) h0
  have k1 := h1
  have lt1 : ∀ x ∈ p1, x.block < W.heap.size := by obtain ⟨m, hm⟩ := k1; exact DataW.trod_lt m _ _ _ hm
  obtain ⟨x1, A1, c1, rfl, le1, C1, o1⟩ := node_arg (hval 1 25 v1 rfl rfl) h1
  clear hA0 hval0
  obtain ⟨k, hk⟩ := G.Pure.AtomClass x0 x1 o0 o1
  refine (vinculumlaw26_AtomClass.calls k A0 c0 x0 x1.f0 x1.f1 x1.f2 A1 c1 x1.f3 true W C0 le0 C1 le1 hk).mono fun e W' ⟨he, bel⟩ => ?_
  subst he
  exact ⟨_, rfl, _, _, _, [], _, [], hW', trodAll_mk1 (shut_bool Tryd.underlying4 _), (trodAll_cons_mk (Below.trod laidOut (by kernel_rfl) (of_decide_eq_true (by kernel_rfl)) k0 bel lt0) (trodAll_cons_mk (Below.trod laidOut (by kernel_rfl) (of_decide_eq_true (by kernel_rfl)) k1 bel lt1) trodAll_mk0)), rfl, bel.frame _, fun h => by cases h⟩
theorem holds : Rows.AtomClassSaid :=
  OpenClaim.holds_of_wide 3 Tryd.f3 rfl rfl rfl rfl rfl rfl rfl ⟨rfl, rfl, rfl, rfl, rfl⟩ rfl rfl rfl rfl rfl (by kernel_rfl) Tryd.func3 (by kernel_rfl)
    (of_decide_eq_true (by kernel_rfl)) (by unfold Func.isWrapper; first | (rw [if_pos (by decide +kernel)]; kernel_rfl) | (rw [if_neg (by decide +kernel)]; exact ⟨rfl, rfl⟩))
    (fun os started H enc _ => lifted os started H enc)
theorem card : Rows.AtomClassCardSaid :=
  Claim7.holds_tied_plain_at .later [] [.data, .pinned] true (true, "67734db34f1bce92d6d831cc5660dc68cd0a9c31abe382fca0bd44b935d5faa7") false holds (fun _ h => by cases h) (by kernel_rfl) (fun _ h => by cases h) atomClass_row_tie rfl ⟨rfl, rfl⟩ (by kernel_rfl) rfl
    (fun f fn hf hfn => by
      obtain rfl : f = 3 := Option.some.inj ((show Tryd.prog.funcNamed "vinculum/vinculumlaw26.AtomClass" = some 3 by kernel_rfl).symm.trans hf) |>.symm
      obtain rfl : fn = Tryd.f3 := (Option.some.inj (Tryd.func3.symm.trans hfn)).symm
      exact ⟨by kernel_rfl, fun j t ht => by
        rw [Tryd.params3] at ht
        have hm : t ∈ [22, 25] := by simpa using Array.mem_of_getElem? ht
        have hall : ([22, 25].all fun u => !Tryd.prog.wantsStandIn u) = true := by kernel_rfl
        exact (show Tryd.prog.wantsStandIn t = false by simpa using List.all_eq_true.1 hall t hm)⟩)
    (by kernel_rfl)
end Go.Proofs.YthdppkmmfjaiaaaDoor.atomClass
namespace Go.Proofs.YthdppkmmfjaiaaaDoor
theorem atomClass_card : Rows.AtomClassCardSaid := atomClass.card
#print axioms atomClass_card
end Go.Proofs.YthdppkmmfjaiaaaDoor
