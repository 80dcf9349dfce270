-- Written by pack2.py, a program of this session: this session's texts and those that the kit's printer wrote for this claim, pruned to what the claims use.
import Derived.Test.YtagkhoeidjlahaaDoorCSi2
namespace Go.Proofs.YtagkhoeidjlahaaDoor.G
open Go.RowKit Go.Proofs.YtagkhoeidjlahaaDoorW.PrintWords Go.Proofs.YtagkhoeidjlahaaDoorW.PrintLast Go.Proofs.YtagkhoeidjlahaaDoorW.PrintMore
attribute [local go_sem] max2_int min2_int max_two min_two max_three min_three max_four min_four
set_option linter.unusedVariables false
set_option linter.unusedSimpArgs false
def node_row.l0 : Nat → List Int → Int → ByteArray → Int → List (S36) → Option (Int × ByteArray × Int × (List (S36)) × Bool)
 | 0, _, _, _, _, _ => none
 | k + 1, x1, x796000, x796001, x796002, x796003 => if (x1.length : Int) ≥ 2 then (if 0 < (x1.length : Int) then (if 1 < (x1.length : Int) then (if (rd x1 0) < 0 then (some (0, (⟨#[]⟩ : ByteArray), 0, ([] : List (S36)), false)) else (if (rd x1 0) ≥ (x796003.length : Int) then (some (0, (⟨#[]⟩ : ByteArray), 0, ([] : List (S36)), false)) else (if (rd x1 1) < 0 then (some (0, (⟨#[]⟩ : ByteArray), 0, ([] : List (S36)), false)) else (if 0 ≤ (rd x1 0) then (if (rd x1 0) < (x796003.length : Int) then (if (rd x1 1) ≥ (((rd_T36 x796003 (rd x1 0)).f3).length : Int) then (some (0, (⟨#[]⟩ : ByteArray), 0, ([] : List (S36)), false)) else (if 0 ≤ (rd x1 1) then (if (rd x1 1) < (((rd_T36 x796003 (rd x1 0)).f3).length : Int) then (if 2 ≤ (x1.length : Int) then (node_row.l0 k (x1.drop 2) ((rd_T36 ((rd_T36 x796003 (rd x1 0)).f3) (rd x1 1)).f0) ((rd_T36 ((rd_T36 x796003 (rd x1 0)).f3) (rd x1 1)).f1) ((rd_T36 ((rd_T36 x796003 (rd x1 0)).f3) (rd x1 1)).f2) ((rd_T36 ((rd_T36 x796003 (rd x1 0)).f3) (rd x1 1)).f3)) else (none)) else (none)) else (none))) else (none)) else (none))))) else (none)) else (none)) else (some (x796000, x796001, x796002, x796003, ((x1.length : Int) == 0)))
def node_row.f (k : Nat) (a0_0 : Int) (a0_1 : ByteArray) (a0_2 : Int) (l0_3 : List (S36)) (l1 : List Int) : Option (Int × ByteArray × Int × (List (S36)) × Bool) := node_row.l0 k l1 a0_0 a0_1 a0_2 l0_3
def node_row.T2 : Bool × List (List Nat × List Nat) := (true, [([], []), ([0], [0]), ([1], [1]), ([], []), ([3], [3]), ([4], [4]), ([2, 0, 1, 2], [2]), ([5, 6, 0, 1, 2, 3, 4, 5, 6], [5])])
def node_row.B2 : List Nat := [0, 1, 3, 0, 8, 24, 7, 127]
theorem node_row.tab2 : rtab .any (opsOf Tryd.f104 2) = node_row.T2 := by kernel_rfl
theorem node_row.bits2 : waitsOk node_row.T2.2 node_row.B2 = true := by kernel_rfl
def node_row.T5 : Bool × List (List Nat × List Nat) := (true, [([], []), ([0], [0]), ([], []), ([1, 2], [1, 2]), ([3], [3]), ([4], [4]), ([], []), ([5, 6], [5, 6]), ([7], [7]), ([], []), ([9], [9]), ([8, 0, 1, 2, 3, 4, 5, 6, 7, 8], [8]), ([10, 11, 0, 1, 2, 3, 4, 5, 6, 7, 8, 9, 10, 11], [9, 10])])
def node_row.B5 : List Nat := [0, 1, 0, 7, 15, 31, 0, 127, 255, 0, 512, 511, 4095]
theorem node_row.tab5 : rtab .any (opsOf Tryd.f104 5) = node_row.T5 := by kernel_rfl
theorem node_row.bits5 : waitsOk node_row.T5.2 node_row.B5 = true := by kernel_rfl
set_option maxHeartbeats 8000000 in
set_option maxRecDepth 100000 in
theorem node_row.calls (k : Nat) (a0_0 : Int) (a0_1 : ByteArray) (a0_2 : Int) (P0_3_ : Nat → Prop) (A0_3 : Option Addr) (c0_3 : Nat) (l0_3 : List (S36)) (P1_ : Nat → Prop) (A1 : Option Addr) (c1 : Nat) (l1 : List Int) (r1 : Int) (r2 : ByteArray) (r3 : Int) (r4 : List (S36)) (r5 : Bool) (w : World) (hs0_3 : Kd.V k36 36 w w.heap.size (fun k_ => P0_3_ k_) (.slice A0_3 l0_3.length c0_3) l0_3) (hs1 : Kd.V (Kd.int .i64) 3 w w.heap.size (fun k_ => P1_ k_) (.slice A1 l1.length c1) l1) (h : node_row.f k a0_0 a0_1 a0_2 l0_3 l1 = some (r1, r2, r3, r4, r5)) :
  Calls Tryd.prog 104 #[.agg #[.int .i64 a0_0, .string a0_1, .int .i64 a0_2, .slice A0_3 l0_3.length c0_3], .slice A1 l1.length c1] w fun e w' => ∃ v3_ : Value, e = .returned (.tuple #[.agg #[.int .i64 r1, .string r2, .int .i64 r3, v3_], .bool r5]) ∧ Kd.V k36 36 w' w.heap.size (fun k_ => ((P0_3_ k_ ∨ P1_ k_) ∨ w.heap.size ≤ k_)) v3_ r4 ∧ Below w.heap.size w w' := by
 have hu36 := Tryd.underlying36
 have HO0_3 := Aside0.mk (show Kd.V k36 36 w w.heap.size (fun k_ => ((P0_3_ k_ ∨ P1_ k_) ∨ w.heap.size ≤ k_)) (.slice A0_3 l0_3.length c0_3) l0_3 from Kd.V_mono hs0_3 (fun k_ hk => .inl (.inl hk)))
 have HO1 := Aside0.mk (show Kd.V (Kd.int .i64) 3 w w.heap.size (fun k_ => ((P0_3_ k_ ∨ P1_ k_) ∨ w.heap.size ≤ k_)) (.slice A1 l1.length c1) l1 from Kd.V_mono hs1 (fun k_ hk => .inl (.inr hk)))
 have HB := Aside0.mk (Below.refl w.heap.size w)
 have H : (node_row.l0 k l1 a0_0 a0_1 a0_2 l0_3) = some (r1, r2, r3, r4, r5) := h
 clear h
 have H' := Aside0.mk H
 clear H
 go_enter Tryd.func104, Tryd.ntmps104
 go_wp2_with (first | ((with_reducible refine gate_dst (N := 2) rfl ?_); (try (refine gate_guard (by rfl) ?_; dsimp only)); refine box_event ?hg (N := 2) ?hd (cs := #[.int .i64 a0_0, .string a0_1, .int .i64 a0_2, .slice A0_3 l0_3.length c0_3]) (t := 36) ?hr ?_; (case hd => rfl); (case hg => rfl); (case hr => first | (go_simp; done) | (go_simp; rfl)); intro gb795 hg w3 hbox hb; have n0_ := Aside0.mk (Kd.V_below (Kd.V_elderB (by (with_reducible repeat (first | apply Kd.V_alloc | apply Kd.V_drewN | apply Kd.V_drew)); exact HO0_3.out) gb795 (Nat.le_of_eq hg.symm)) hb); have n1_ := Aside0.mk (Kd.V_below (Kd.V_elderB (by (with_reducible repeat (first | apply Kd.V_alloc | apply Kd.V_drewN | apply Kd.V_drew)); exact HO1.out) gb795 (Nat.le_of_eq hg.symm)) hb); have n2_ := Aside0.mk (below_step (by repeat (first | (with_reducible first | exact HB.out | apply below_alloc | apply pw_below_drewN | apply below_drew1) | exact HB.out)) hb); have n3_ := Aside0.mk (hbox); have n4_ := Aside0.mk ((by rw [hg]; exact (below_size (by repeat (first | (with_reducible first | exact HB.out | apply below_alloc | apply pw_below_drewN | apply below_drew1) | exact HB.out))) : w.heap.size ≤ gb795)); have n5_ := Aside0.mk ((by rw [hg]; exact (below_size (by repeat (first | (with_reducible first | exact HB.out | apply below_alloc | apply pw_below_drewN | apply below_drew1) | exact HB.out))) : w.heap.size ≤ gb795)); clear HO0_3; clear HO1; clear HB; have HO0_3 := n0_; have HO1 := n1_; have HB := n2_; have BK795 := n3_; have GW795 := n4_; have GE795 := n5_; clear n0_ n1_ n2_ n3_ n4_ n5_; clear hb hbox hg) | ((with_reducible refine gate_dst (N := 4) rfl ?_); (try (refine gate_guard (by rfl) ?_; dsimp only)); refine box_event ?hg (N := 4) ?hd (cs := #[.int .i64 0, .string (⟨#[]⟩ : ByteArray), .int .i64 0, .slice none 0 0]) (t := 36) ?hr ?_; (case hd => rfl); (case hg => rfl); (case hr => first | (go_simp; done) | (go_simp; rfl)); intro gb796 hg w4 hbox hb; have n0_ := Aside0.mk (Kd.V_below (Kd.V_elderB (by (with_reducible repeat (first | apply Kd.V_alloc | apply Kd.V_drewN | apply Kd.V_drew)); exact HO0_3.out) gb796 (Nat.le_of_eq hg.symm)) hb); have n1_ := Aside0.mk (Kd.V_below (Kd.V_elderB (by (with_reducible repeat (first | apply Kd.V_alloc | apply Kd.V_drewN | apply Kd.V_drew)); exact HO1.out) gb796 (Nat.le_of_eq hg.symm)) hb); have n2_ := Aside0.mk (blk_below (g := gb795) (o := .cells #[.int .i64 a0_0, .string a0_1, .int .i64 a0_2, .slice A0_3 l0_3.length c0_3] 36 (0, 0)) (by (with_reducible repeat (first | refine blk_drewN ?_ _ | refine blk_drew ?_ | refine blk_alloc ?_ _)); exact BK795.out) hb); have n3_ := Aside0.mk (below_step (by repeat (first | (with_reducible first | exact HB.out | apply below_alloc | apply pw_below_drewN | apply below_drew1 | refine below_set ?_ GE795.out) | exact HB.out)) hb); have n4_ := Aside0.mk (hbox); have n5_ := Aside0.mk ((by rw [hg]; exact (below_size (by repeat (first | (with_reducible first | exact HB.out | apply below_alloc | apply pw_below_drewN | apply below_drew1 | refine below_set ?_ GE795.out) | exact HB.out))) : w.heap.size ≤ gb796)); have n6_ := Aside0.mk ((by rw [hg]; exact (below_size (by repeat (first | (with_reducible first | exact HB.out | apply below_alloc | apply pw_below_drewN | apply below_drew1 | refine below_set ?_ GE795.out) | exact HB.out))) : w.heap.size ≤ gb796)); have n7_ := Aside0.mk ((by rw [hg]; exact Nat.ne_of_lt (blk_lt (g := gb795) (o := .cells #[.int .i64 a0_0, .string a0_1, .int .i64 a0_2, .slice A0_3 l0_3.length c0_3] 36 (0, 0)) (by (with_reducible repeat (first | refine blk_drewN ?_ _ | refine blk_drew ?_ | refine blk_alloc ?_ _)); exact BK795.out)) : gb795 ≠ gb796)); have n8_ := Aside0.mk ((by rw [hg]; exact Nat.ne_of_gt (blk_lt (g := gb795) (o := .cells #[.int .i64 a0_0, .string a0_1, .int .i64 a0_2, .slice A0_3 l0_3.length c0_3] 36 (0, 0)) (by (with_reducible repeat (first | refine blk_drewN ?_ _ | refine blk_drew ?_ | refine blk_alloc ?_ _)); exact BK795.out)) : gb796 ≠ gb795)); clear HO0_3; clear HO1; clear BK795; clear HB; have HO0_3 := n0_; have HO1 := n1_; have BK795 := n2_; have HB := n3_; have BK796 := n4_; have GW796 := n5_; have GE796 := n6_; have NB795_796 := n7_; have NB796_795 := n8_; clear n0_ n1_ n2_ n3_ n4_ n5_ n6_ n7_ n8_; clear hb hbox hg))
 go_loopg [1] k (fun kq v1 w' => ∃ (x1_1 : List Int) (x796000_1 : Int) (x796001_1 : ByteArray) (x796002_1 : Int) (x796003_1 : List (S36)) (x797000_1 : Int) (x797001_1 : ByteArray) (x797002_1 : Int) (u796003 : Value), Aside0 (node_row.l0 kq x1_1 x796000_1 x796001_1 x796002_1 x796003_1 = some (r1, r2, r3, r4, r5)) ∧ Aside0 (kq ≤ k) ∧ Aside0 (Kd.V (Kd.int .i64) 3 w' w.heap.size (fun k_ => ((P0_3_ k_ ∨ P1_ k_) ∨ w.heap.size ≤ k_) ∧ k_ ≠ gb795 ∧ k_ ≠ gb796) v1 x1_1) ∧ Aside0 (Kd.V k36 36 w' w.heap.size (fun k_ => ((P0_3_ k_ ∨ P1_ k_) ∨ w.heap.size ≤ k_) ∧ k_ ≠ gb795 ∧ k_ ≠ gb796) u796003 x796003_1) ∧ Aside0 (w'.heap[gb795]? = some (.cells #[.int .i64 x796000_1, .string x796001_1, .int .i64 x796002_1, u796003] 36 (0, 0))) ∧ Aside0 (w'.heap[gb796]? = some (.cells #[.int .i64 x797000_1, .string x797001_1, .int .i64 x797002_1, (.slice none 0 0)] 36 (0, 0))) ∧ Aside0 (Below w.heap.size w w'))
 case atStart => exact ⟨(l1), (a0_0), (a0_1), (a0_2), (l0_3), (0), ((⟨#[]⟩ : ByteArray)), (0), (.slice A0_3 l0_3.length c0_3), H', ⟨Nat.le_refl _⟩, ⟨by (with_reducible repeat (first | apply Kd.V_alloc | apply Kd.V_drewN | apply Kd.V_drew)); exact Kd.V_mono HO1.out (fun _ hk => ⟨hk.1.1, ⟨hk.1.2, hk.2⟩⟩)⟩, ⟨by (with_reducible repeat (first | apply Kd.V_alloc | apply Kd.V_drewN | apply Kd.V_drew)); exact Kd.V_mono HO0_3.out (fun _ hk => ⟨hk.1.1, ⟨hk.1.2, hk.2⟩⟩)⟩, ⟨by (with_reducible repeat (first | refine blk_drewN ?_ _ | refine blk_drew ?_ | refine blk_alloc ?_ _)); exact BK795.out⟩, ⟨by (with_reducible repeat (first | refine blk_drewN ?_ _ | refine blk_drew ?_ | refine blk_alloc ?_ _)); exact BK796.out⟩, ⟨by repeat (first | (with_reducible first | exact HB.out | apply below_alloc | apply pw_below_drewN | apply below_drew1 | refine below_set ?_ GE795.out | refine below_set ?_ GE796.out) | exact HB.out)⟩⟩
 case round =>
  clear H'
  try clear c1
  try clear p2
  obtain ⟨x1_1, x796000_1, x796001_1, x796002_1, x796003_1, x797000_1, x797001_1, x797002_1, u796003, HA, HK1, HO_1, HO_796003, BK795, BK796, HB⟩ := hrel
  cases gk with
  | zero => exact absurd HA.out (by simp [node_row.l0])
  | succ k1 =>
   have H := HA.out
   clear HA
   simp only [node_row.l0] at H
   by_cases c5 : (x1_1.length : Int) ≥ 2
   ·
    rw [if_pos c5] at H
    have c5b0 : decide (2 ≤ (x1_1.length : Int)) = true := decide_eq_true c5
    have c5b1 : decide (2 ≤ x1_1.length) = true := decide_eq_true (by omega)
    clear c5
    by_cases c6 : 0 < (x1_1.length : Int)
    ·
     rw [if_pos c6] at H
     have c6b0 : decide (0 < (x1_1.length : Int)) = true := decide_eq_true c6
     have c6b1 : decide (0 < x1_1.length) = true := decide_eq_true (by omega)
     clear c6
     by_cases c7 : 1 < (x1_1.length : Int)
     ·
      rw [if_pos c7] at H
      have c7b0 : decide (1 < (x1_1.length : Int)) = true := decide_eq_true c7
      have c7b1 : decide (1 < x1_1.length) = true := decide_eq_true (by omega)
      clear c7
      by_cases c8 : (rd x1_1 0) < 0
      ·
       rw [if_pos c8] at H
       have c8b0 : decide ((rd x1_1 0) < 0) = true := decide_eq_true c8
       clear c8
       simp only [Option.some.injEq, Prod.mk.injEq] at H
       obtain ⟨rfl, rfl, rfl, rfl, rfl⟩ := H
       obtain ⟨Ao9, co9, eo9⟩ := Kd.V_slice HO_1.out
       subst eo9
       try go_wp2
       have n0_ := Aside0.mk (Kd.V_drew HO_1.out)
       have n1_ := Aside0.mk (Kd.V_drew HO_796003.out)
       have n2_ := Aside0.mk (blk_drew BK795.out)
       have n3_ := Aside0.mk (blk_drew BK796.out)
       have n4_ := Aside0.mk (below_drew1 HB.out)
       clear HO_1
       clear HO_796003
       clear BK795
       clear BK796
       clear HB
       have HO_1 := n0_
       have HO_796003 := n1_
       have BK795 := n2_
       have BK796 := n3_
       have HB := n4_
       clear n0_ n1_ n2_ n3_ n4_
       have p797 : 0 ≤ (0 : Int) := (by omega)
       have q797 : 0 < (x1_1.length : Int) := of_decide_eq_true (by first | (with_reducible assumption) | assumption)
       obtain ⟨ad797, e797, hx797_0⟩ := Kd.at_int (Kd.V_reads' HO_1.out).2.2 0 p797 q797
       cases e797
       have qi797 : (0 < x1_1.length) = True := eq_true (by omega)
       (try rw [show ((0 : Int)).toNat = 0 from rfl] at hx797_0)
       (try rw [Addr.add_zero'] at hx797_0)
       replace p797 := eq_true p797
       replace q797 := eq_true q797
       have p798 : 0 ≤ (1 : Int) := (by omega)
       have q798 : 1 < (x1_1.length : Int) := of_decide_eq_true (by first | (with_reducible assumption) | assumption)
       obtain ⟨ad798, e798, hx798_0⟩ := Kd.at_int (Kd.V_reads' HO_1.out).2.2 1 p798 q798
       obtain rfl : ad797 = ad798 := (by injection e798)
       (try simp only [show (1 : Int).toNat = 1 from rfl, Nat.reduceMul, Nat.reduceEqDiff, Go.Addr.add, ↓reduceIte] at hx798_0)
       have qi798 : (1 < x1_1.length) = True := eq_true (by omega)
       (try rw [show ((1 : Int)).toNat = 1 from rfl] at hx798_0)
       replace p798 := eq_true p798
       replace q798 := eq_true q798
       refine start_ (n := 8) (S := fun w' => w'.cell? ad797 = some (.int .i64 (rd x1_1 0)) ∧ w'.cell? ⟨ad797.block, ad797.off + 1, none⟩ = some (.int .i64 (rd x1_1 1))) (ds := []) #[false, false, false, false, false, false, false, false] (by kernel_rfl) rfl rfl ⟨hx797_0, hx798_0⟩ (fun hHeld => ?_); refine with_tabW node_row.tab2 node_row.bits2 (fun HT_ HW_ => ?_)
       generalize wr.drew = w10 at HO_1 HO_796003 BK795 BK796 HB hx797_0 hx798_0 hHeld ⊢
       refine pure_ (i := 0) (N := some 11) (v := ?_) (a' := ?_) #[true, false, false, false, false, false, false, false] rfl rfl (any_of HT_.out (by kernel_rfl)) (fun _ _ _ h => h) (Or.inl ⟨by rfl, ?_⟩) ?_ ?_
       rotate_left
       ·
        intro w'
        go_simp
        first | with_reducible rfl | (rw [own_len_N ?hl_ ?hu_]; (case hl_ => assumption); (case hu_ => kernel_rfl); (try with_reducible rfl)) | (rw [own_len_R ?hl_ ?hu_]; (case hl_ => assumption); (case hu_ => kernel_rfl); (try with_reducible rfl))
       rotate_left
       ·
        simp only [Act.put, List.setIfInBounds_toArray, List.set_cons_zero, List.set_cons_succ, i64_w, i32_w]
        rfl
       refine pure_ (i := 1) (N := some 12) (v := ?_) (a' := ?_) #[true, true, false, false, false, false, false, false] rfl rfl (any_of HT_.out (by kernel_rfl)) (fun _ _ _ h => h) (Or.inl ⟨by rfl, ?_⟩) ?_ ?_
       rotate_left
       ·
        intro w'
        go_simp
        first | with_reducible rfl | (rw [own_len_N ?hl_ ?hu_]; (case hl_ => assumption); (case hu_ => kernel_rfl); (try with_reducible rfl)) | (rw [own_len_R ?hl_ ?hu_]; (case hl_ => assumption); (case hu_ => kernel_rfl); (try with_reducible rfl))
       rotate_left
       ·
        simp only [Act.put, List.setIfInBounds_toArray, List.set_cons_zero, List.set_cons_succ, i64_w, i32_w]
        rfl
       refine pure_ (i := 3) (N := some 14) (v := ?_) (a' := ?_) #[true, true, false, true, false, false, false, false] rfl rfl (any_of HT_.out (by kernel_rfl)) (fun _ _ _ h => h) (Or.inl ⟨by rfl, ?_⟩) ?_ ?_
       rotate_left
       ·
        intro w'
        go_simp
        first | with_reducible rfl | (rw [own_len_N ?hl_ ?hu_]; (case hl_ => assumption); (case hu_ => kernel_rfl); (try with_reducible rfl)) | (rw [own_len_R ?hl_ ?hu_]; (case hl_ => assumption); (case hu_ => kernel_rfl); (try with_reducible rfl))
       rotate_left
       ·
        simp only [Act.put, List.setIfInBounds_toArray, List.set_cons_zero, List.set_cons_succ, i64_w, i32_w]
        rfl
       refine pure_ (i := 4) (N := some 15) (v := ?_) (a' := ?_) #[true, true, false, true, true, false, false, false] rfl rfl (any_of HT_.out (by kernel_rfl)) (fun _ _ _ h => h) (Or.inl ⟨by rfl, ?_⟩) ?_ ?_
       rotate_left
       ·
        intro w'
        go_simp
        first | with_reducible rfl | (rw [own_len_N ?hl_ ?hu_]; (case hl_ => assumption); (case hu_ => kernel_rfl); (try with_reducible rfl)) | (rw [own_len_R ?hl_ ?hu_]; (case hl_ => assumption); (case hu_ => kernel_rfl); (try with_reducible rfl))
       rotate_left
       ·
        simp only [Act.put, List.setIfInBounds_toArray, List.set_cons_zero, List.set_cons_succ, i64_w, i32_w]
        rfl
       refine take_ (i := 2) (N := some 13) (v := ?_) (a' := ?_) #[true, true, true, true, true, false, false, false] rfl rfl (take_ofW HT_.out HW_.out (by kernel_rfl)) (fun _ _ _ h => h) (Or.inl ⟨by rfl, ?_⟩) hHeld ?_ ?_
       rotate_left
       ·
        rintro w' ⟨s0, s1⟩
        go_simp
        with_reducible rfl
       rotate_left
       ·
        simp only [Act.put, List.setIfInBounds_toArray, List.set_cons_zero, List.set_cons_succ, i64_w, i32_w]
        rfl
       refine pure_ (i := 6) (N := some 6) (v := ?_) (a' := ?_) #[true, true, true, true, true, false, true, false] rfl rfl (any_of HT_.out (by kernel_rfl)) (fun _ _ _ h => h) (Or.inl ⟨by rfl, ?_⟩) ?_ ?_
       rotate_left
       ·
        intro w'
        go_simp
        first | with_reducible rfl | (rw [own_len_N ?hl_ ?hu_]; (case hl_ => assumption); (case hu_ => kernel_rfl); (try with_reducible rfl)) | (rw [own_len_R ?hl_ ?hu_]; (case hl_ => assumption); (case hu_ => kernel_rfl); (try with_reducible rfl))
       rotate_left
       ·
        simp only [Act.put, List.setIfInBounds_toArray, List.set_cons_zero, List.set_cons_succ, i64_w, i32_w]
        rfl
       refine take_ (i := 5) (N := some 16) (v := ?_) (a' := ?_) #[true, true, true, true, true, true, true, false] rfl rfl (take_ofW HT_.out HW_.out (by kernel_rfl)) (fun _ _ _ h => h) (Or.inl ⟨by rfl, ?_⟩) hHeld ?_ ?_
       rotate_left
       ·
        rintro w' ⟨s0, s1⟩
        go_simp
        with_reducible rfl
       rotate_left
       ·
        simp only [Act.put, List.setIfInBounds_toArray, List.set_cons_zero, List.set_cons_succ, i64_w, i32_w]
        rfl
       refine pure_ (i := 7) (N := some 7) (v := ?_) (a' := ?_) #[true, true, true, true, true, true, true, true] rfl rfl (any_of HT_.out (by kernel_rfl)) (fun _ _ _ h => h) (Or.inl ⟨by rfl, ?_⟩) ?_ ?_
       rotate_left
       ·
        intro w'
        go_simp
        first | with_reducible rfl | (rw [own_len_N ?hl_ ?hu_]; (case hl_ => assumption); (case hu_ => kernel_rfl); (try with_reducible rfl)) | (rw [own_len_R ?hl_ ?hu_]; (case hl_ => assumption); (case hu_ => kernel_rfl); (try with_reducible rfl))
       rotate_left
       ·
        simp only [Act.put, List.setIfInBounds_toArray, List.set_cons_zero, List.set_cons_succ, i64_w, i32_w]
        rfl
       refine done_ (done_of HT_.out (by kernel_rfl)) ?_
       have hnb11 := NB796_795.out
       have hnc11 := NB795_796.out
       have hcz12_0 : w10.cell? ⟨gb796, 0, none⟩ = some (.int .i64 x797000_1) := (blk_cell BK796.out 0).trans rfl
       have hcz12_1 : w10.cell? ⟨gb796, 1, none⟩ = some (.string x797001_1) := (blk_cell BK796.out 1).trans rfl
       have hcz12_2 : w10.cell? ⟨gb796, 2, none⟩ = some (.int .i64 x797002_1) := (blk_cell BK796.out 2).trans rfl
       have hcz12_3 : w10.cell? ⟨gb796, 3, none⟩ = some (.slice none 0 0) := (blk_cell BK796.out 3).trans rfl
       have hfz12_0 := blk_frozen BK796.out 0
       have hfz12_1 := blk_frozen BK796.out 1
       have hfz12_2 := blk_frozen BK796.out 2
       have hfz12_3 := blk_frozen BK796.out 3
       try go_wp2
       refine bodyPost_ret (results_ct rfl _ _ gb796 36 #[.int .i64 0, .string (⟨#[]⟩ : ByteArray), .int .i64 0, .slice none 0 0] (0, 0) _ rfl (by (with_reducible repeat (first | refine blk_drewN ?_ _ | refine blk_drew ?_ | refine blk_alloc ?_ _)); refine blk_put (cs := #[.int .i64 0, .string (⟨#[]⟩ : ByteArray), .int .i64 0, .slice none 0 0]) ?_ 3 _ rfl; (with_reducible repeat (first | refine blk_drewN ?_ _ | refine blk_drew ?_ | refine blk_alloc ?_ _)); refine blk_put (cs := #[.int .i64 0, .string (⟨#[]⟩ : ByteArray), .int .i64 x797002_1, .slice none 0 0]) ?_ 2 _ rfl; (with_reducible repeat (first | refine blk_drewN ?_ _ | refine blk_drew ?_ | refine blk_alloc ?_ _)); refine blk_put (cs := #[.int .i64 0, .string x797001_1, .int .i64 x797002_1, .slice none 0 0]) ?_ 1 _ rfl; (with_reducible repeat (first | refine blk_drewN ?_ _ | refine blk_drew ?_ | refine blk_alloc ?_ _)); refine blk_put (cs := #[.int .i64 x797000_1, .string x797001_1, .int .i64 x797002_1, .slice none 0 0]) ?_ 0 _ rfl; (with_reducible repeat (first | refine blk_drewN ?_ _ | refine blk_drew ?_ | refine blk_alloc ?_ _)); exact BK796.out) Tryd.underlying36 rfl (by kernel_rfl)) rfl ?_
       exact ⟨_, by first | rfl | (simp [errW_none, errW_some] <;> rfl) | (simp [*, errW_none, errW_some] <;> rfl), Kd.V_nil _ _ _ _ _, by repeat (first | (with_reducible first | exact HB.out | apply below_alloc | apply pw_below_drewN | apply below_drew1 | refine below_set ?_ GE795.out | refine below_set ?_ GE796.out) | exact HB.out)⟩
      ·
       rw [if_neg c8] at H
       have c8b0 : decide ((rd x1_1 0) < 0) = false := decide_eq_false c8
       clear c8
       by_cases c13 : (rd x1_1 0) ≥ (x796003_1.length : Int)
       ·
        rw [if_pos c13] at H
        have c13b0 : decide ((x796003_1.length : Int) ≤ (rd x1_1 0)) = true := decide_eq_true c13
        clear c13
        simp only [Option.some.injEq, Prod.mk.injEq] at H
        obtain ⟨rfl, rfl, rfl, rfl, rfl⟩ := H
        obtain ⟨Ao14, co14, eo14⟩ := Kd.V_slice HO_1.out
        subst eo14
        try go_wp2
        have n0_ := Aside0.mk (Kd.V_drew HO_1.out)
        have n1_ := Aside0.mk (Kd.V_drew HO_796003.out)
        have n2_ := Aside0.mk (blk_drew BK795.out)
        have n3_ := Aside0.mk (blk_drew BK796.out)
        have n4_ := Aside0.mk (below_drew1 HB.out)
        clear HO_1
        clear HO_796003
        clear BK795
        clear BK796
        clear HB
        have HO_1 := n0_
        have HO_796003 := n1_
        have BK795 := n2_
        have BK796 := n3_
        have HB := n4_
        clear n0_ n1_ n2_ n3_ n4_
        have p797 : 0 ≤ (0 : Int) := (by omega)
        have q797 : 0 < (x1_1.length : Int) := of_decide_eq_true (by first | (with_reducible assumption) | assumption)
        obtain ⟨ad797, e797, hx797_0⟩ := Kd.at_int (Kd.V_reads' HO_1.out).2.2 0 p797 q797
        cases e797
        have qi797 : (0 < x1_1.length) = True := eq_true (by omega)
        (try rw [show ((0 : Int)).toNat = 0 from rfl] at hx797_0)
        (try rw [Addr.add_zero'] at hx797_0)
        replace p797 := eq_true p797
        replace q797 := eq_true q797
        have p798 : 0 ≤ (1 : Int) := (by omega)
        have q798 : 1 < (x1_1.length : Int) := of_decide_eq_true (by first | (with_reducible assumption) | assumption)
        obtain ⟨ad798, e798, hx798_0⟩ := Kd.at_int (Kd.V_reads' HO_1.out).2.2 1 p798 q798
        obtain rfl : ad797 = ad798 := (by injection e798)
        (try simp only [show (1 : Int).toNat = 1 from rfl, Nat.reduceMul, Nat.reduceEqDiff, Go.Addr.add, ↓reduceIte] at hx798_0)
        have qi798 : (1 < x1_1.length) = True := eq_true (by omega)
        (try rw [show ((1 : Int)).toNat = 1 from rfl] at hx798_0)
        replace p798 := eq_true p798
        replace q798 := eq_true q798
        refine start_ (n := 8) (S := fun w' => w'.cell? ad797 = some (.int .i64 (rd x1_1 0)) ∧ w'.cell? ⟨ad797.block, ad797.off + 1, none⟩ = some (.int .i64 (rd x1_1 1))) (ds := []) #[false, false, false, false, false, false, false, false] (by kernel_rfl) rfl rfl ⟨hx797_0, hx798_0⟩ (fun hHeld => ?_); refine with_tabW node_row.tab2 node_row.bits2 (fun HT_ HW_ => ?_)
        generalize wr.drew = w15 at HO_1 HO_796003 BK795 BK796 HB hx797_0 hx798_0 hHeld ⊢
        refine pure_ (i := 0) (N := some 11) (v := ?_) (a' := ?_) #[true, false, false, false, false, false, false, false] rfl rfl (any_of HT_.out (by kernel_rfl)) (fun _ _ _ h => h) (Or.inl ⟨by rfl, ?_⟩) ?_ ?_
        rotate_left
        ·
         intro w'
         go_simp
         first | with_reducible rfl | (rw [own_len_N ?hl_ ?hu_]; (case hl_ => assumption); (case hu_ => kernel_rfl); (try with_reducible rfl)) | (rw [own_len_R ?hl_ ?hu_]; (case hl_ => assumption); (case hu_ => kernel_rfl); (try with_reducible rfl))
        rotate_left
        ·
         simp only [Act.put, List.setIfInBounds_toArray, List.set_cons_zero, List.set_cons_succ, i64_w, i32_w]
         rfl
        refine pure_ (i := 1) (N := some 12) (v := ?_) (a' := ?_) #[true, true, false, false, false, false, false, false] rfl rfl (any_of HT_.out (by kernel_rfl)) (fun _ _ _ h => h) (Or.inl ⟨by rfl, ?_⟩) ?_ ?_
        rotate_left
        ·
         intro w'
         go_simp
         first | with_reducible rfl | (rw [own_len_N ?hl_ ?hu_]; (case hl_ => assumption); (case hu_ => kernel_rfl); (try with_reducible rfl)) | (rw [own_len_R ?hl_ ?hu_]; (case hl_ => assumption); (case hu_ => kernel_rfl); (try with_reducible rfl))
        rotate_left
        ·
         simp only [Act.put, List.setIfInBounds_toArray, List.set_cons_zero, List.set_cons_succ, i64_w, i32_w]
         rfl
        refine pure_ (i := 3) (N := some 14) (v := ?_) (a' := ?_) #[true, true, false, true, false, false, false, false] rfl rfl (any_of HT_.out (by kernel_rfl)) (fun _ _ _ h => h) (Or.inl ⟨by rfl, ?_⟩) ?_ ?_
        rotate_left
        ·
         intro w'
         go_simp
         first | with_reducible rfl | (rw [own_len_N ?hl_ ?hu_]; (case hl_ => assumption); (case hu_ => kernel_rfl); (try with_reducible rfl)) | (rw [own_len_R ?hl_ ?hu_]; (case hl_ => assumption); (case hu_ => kernel_rfl); (try with_reducible rfl))
        rotate_left
        ·
         simp only [Act.put, List.setIfInBounds_toArray, List.set_cons_zero, List.set_cons_succ, i64_w, i32_w]
         rfl
        refine pure_ (i := 4) (N := some 15) (v := ?_) (a' := ?_) #[true, true, false, true, true, false, false, false] rfl rfl (any_of HT_.out (by kernel_rfl)) (fun _ _ _ h => h) (Or.inl ⟨by rfl, ?_⟩) ?_ ?_
        rotate_left
        ·
         intro w'
         go_simp
         first | with_reducible rfl | (rw [own_len_N ?hl_ ?hu_]; (case hl_ => assumption); (case hu_ => kernel_rfl); (try with_reducible rfl)) | (rw [own_len_R ?hl_ ?hu_]; (case hl_ => assumption); (case hu_ => kernel_rfl); (try with_reducible rfl))
        rotate_left
        ·
         simp only [Act.put, List.setIfInBounds_toArray, List.set_cons_zero, List.set_cons_succ, i64_w, i32_w]
         rfl
        refine take_ (i := 2) (N := some 13) (v := ?_) (a' := ?_) #[true, true, true, true, true, false, false, false] rfl rfl (take_ofW HT_.out HW_.out (by kernel_rfl)) (fun _ _ _ h => h) (Or.inl ⟨by rfl, ?_⟩) hHeld ?_ ?_
        rotate_left
        ·
         rintro w' ⟨s0, s1⟩
         go_simp
         with_reducible rfl
        rotate_left
        ·
         simp only [Act.put, List.setIfInBounds_toArray, List.set_cons_zero, List.set_cons_succ, i64_w, i32_w]
         rfl
        refine pure_ (i := 6) (N := some 6) (v := ?_) (a' := ?_) #[true, true, true, true, true, false, true, false] rfl rfl (any_of HT_.out (by kernel_rfl)) (fun _ _ _ h => h) (Or.inl ⟨by rfl, ?_⟩) ?_ ?_
        rotate_left
        ·
         intro w'
         go_simp
         first | with_reducible rfl | (rw [own_len_N ?hl_ ?hu_]; (case hl_ => assumption); (case hu_ => kernel_rfl); (try with_reducible rfl)) | (rw [own_len_R ?hl_ ?hu_]; (case hl_ => assumption); (case hu_ => kernel_rfl); (try with_reducible rfl))
        rotate_left
        ·
         simp only [Act.put, List.setIfInBounds_toArray, List.set_cons_zero, List.set_cons_succ, i64_w, i32_w]
         rfl
        refine take_ (i := 5) (N := some 16) (v := ?_) (a' := ?_) #[true, true, true, true, true, true, true, false] rfl rfl (take_ofW HT_.out HW_.out (by kernel_rfl)) (fun _ _ _ h => h) (Or.inl ⟨by rfl, ?_⟩) hHeld ?_ ?_
        rotate_left
        ·
         rintro w' ⟨s0, s1⟩
         go_simp
         with_reducible rfl
        rotate_left
        ·
         simp only [Act.put, List.setIfInBounds_toArray, List.set_cons_zero, List.set_cons_succ, i64_w, i32_w]
         rfl
        refine pure_ (i := 7) (N := some 7) (v := ?_) (a' := ?_) #[true, true, true, true, true, true, true, true] rfl rfl (any_of HT_.out (by kernel_rfl)) (fun _ _ _ h => h) (Or.inl ⟨by rfl, ?_⟩) ?_ ?_
        rotate_left
        ·
         intro w'
         go_simp
         first | with_reducible rfl | (rw [own_len_N ?hl_ ?hu_]; (case hl_ => assumption); (case hu_ => kernel_rfl); (try with_reducible rfl)) | (rw [own_len_R ?hl_ ?hu_]; (case hl_ => assumption); (case hu_ => kernel_rfl); (try with_reducible rfl))
        rotate_left
        ·
         simp only [Act.put, List.setIfInBounds_toArray, List.set_cons_zero, List.set_cons_succ, i64_w, i32_w]
         rfl
        refine done_ (done_of HT_.out (by kernel_rfl)) ?_
        have hnb16 := NB795_796.out
        have hnc16 := NB796_795.out
        have hcz17_0 : w15.cell? ⟨gb795, 0, none⟩ = some (.int .i64 x796000_1) := (blk_cell BK795.out 0).trans rfl
        have hcz17_1 : w15.cell? ⟨gb795, 1, none⟩ = some (.string x796001_1) := (blk_cell BK795.out 1).trans rfl
        have hcz17_2 : w15.cell? ⟨gb795, 2, none⟩ = some (.int .i64 x796002_1) := (blk_cell BK795.out 2).trans rfl
        have hcz17_3 : w15.cell? ⟨gb795, 3, none⟩ = some (u796003) := (blk_cell BK795.out 3).trans rfl
        have hfz17_0 := blk_frozen BK795.out 0
        have hfz17_1 := blk_frozen BK795.out 1
        have hfz17_2 := blk_frozen BK795.out 2
        have hfz17_3 := blk_frozen BK795.out 3
        obtain ⟨Ao18, co18, eo18⟩ := Kd.V_slice HO_796003.out
        subst eo18
        have hcz19_0 : w15.cell? ⟨gb796, 0, none⟩ = some (.int .i64 x797000_1) := (blk_cell BK796.out 0).trans rfl
        have hcz19_1 : w15.cell? ⟨gb796, 1, none⟩ = some (.string x797001_1) := (blk_cell BK796.out 1).trans rfl
        have hcz19_2 : w15.cell? ⟨gb796, 2, none⟩ = some (.int .i64 x797002_1) := (blk_cell BK796.out 2).trans rfl
        have hcz19_3 : w15.cell? ⟨gb796, 3, none⟩ = some (.slice none 0 0) := (blk_cell BK796.out 3).trans rfl
        have hfz19_0 := blk_frozen BK796.out 0
        have hfz19_1 := blk_frozen BK796.out 1
        have hfz19_2 := blk_frozen BK796.out 2
        have hfz19_3 := blk_frozen BK796.out 3
        try go_wp2
        refine bodyPost_ret (results_ct rfl _ _ gb796 36 #[.int .i64 0, .string (⟨#[]⟩ : ByteArray), .int .i64 0, .slice none 0 0] (0, 0) _ rfl (by (with_reducible repeat (first | refine blk_drewN ?_ _ | refine blk_drew ?_ | refine blk_alloc ?_ _)); refine blk_put (cs := #[.int .i64 0, .string (⟨#[]⟩ : ByteArray), .int .i64 0, .slice none 0 0]) ?_ 3 _ rfl; (with_reducible repeat (first | refine blk_drewN ?_ _ | refine blk_drew ?_ | refine blk_alloc ?_ _)); refine blk_put (cs := #[.int .i64 0, .string (⟨#[]⟩ : ByteArray), .int .i64 x797002_1, .slice none 0 0]) ?_ 2 _ rfl; (with_reducible repeat (first | refine blk_drewN ?_ _ | refine blk_drew ?_ | refine blk_alloc ?_ _)); refine blk_put (cs := #[.int .i64 0, .string x797001_1, .int .i64 x797002_1, .slice none 0 0]) ?_ 1 _ rfl; (with_reducible repeat (first | refine blk_drewN ?_ _ | refine blk_drew ?_ | refine blk_alloc ?_ _)); refine blk_put (cs := #[.int .i64 x797000_1, .string x797001_1, .int .i64 x797002_1, .slice none 0 0]) ?_ 0 _ rfl; (with_reducible repeat (first | refine blk_drewN ?_ _ | refine blk_drew ?_ | refine blk_alloc ?_ _)); exact BK796.out) Tryd.underlying36 rfl (by kernel_rfl)) rfl ?_
        exact ⟨_, by first | rfl | (simp [errW_none, errW_some] <;> rfl) | (simp [*, errW_none, errW_some] <;> rfl), Kd.V_nil _ _ _ _ _, by repeat (first | (with_reducible first | exact HB.out | apply below_alloc | apply pw_below_drewN | apply below_drew1 | refine below_set ?_ GE795.out | refine below_set ?_ GE796.out) | exact HB.out)⟩
       ·
        rw [if_neg c13] at H
        have c13b0 : decide ((x796003_1.length : Int) ≤ (rd x1_1 0)) = false := decide_eq_false c13
        clear c13
        by_cases c20 : (rd x1_1 1) < 0
        ·
         rw [if_pos c20] at H
         have c20b0 : decide ((rd x1_1 1) < 0) = true := decide_eq_true c20
         clear c20
         simp only [Option.some.injEq, Prod.mk.injEq] at H
         obtain ⟨rfl, rfl, rfl, rfl, rfl⟩ := H
         obtain ⟨Ao21, co21, eo21⟩ := Kd.V_slice HO_1.out
         subst eo21
         try go_wp2
         have n0_ := Aside0.mk (Kd.V_drew HO_1.out)
         have n1_ := Aside0.mk (Kd.V_drew HO_796003.out)
         have n2_ := Aside0.mk (blk_drew BK795.out)
         have n3_ := Aside0.mk (blk_drew BK796.out)
         have n4_ := Aside0.mk (below_drew1 HB.out)
         clear HO_1
         clear HO_796003
         clear BK795
         clear BK796
         clear HB
         have HO_1 := n0_
         have HO_796003 := n1_
         have BK795 := n2_
         have BK796 := n3_
         have HB := n4_
         clear n0_ n1_ n2_ n3_ n4_
         have p797 : 0 ≤ (0 : Int) := (by omega)
         have q797 : 0 < (x1_1.length : Int) := of_decide_eq_true (by first | (with_reducible assumption) | assumption)
         obtain ⟨ad797, e797, hx797_0⟩ := Kd.at_int (Kd.V_reads' HO_1.out).2.2 0 p797 q797
         cases e797
         have qi797 : (0 < x1_1.length) = True := eq_true (by omega)
         (try rw [show ((0 : Int)).toNat = 0 from rfl] at hx797_0)
         (try rw [Addr.add_zero'] at hx797_0)
         replace p797 := eq_true p797
         replace q797 := eq_true q797
         have p798 : 0 ≤ (1 : Int) := (by omega)
         have q798 : 1 < (x1_1.length : Int) := of_decide_eq_true (by first | (with_reducible assumption) | assumption)
         obtain ⟨ad798, e798, hx798_0⟩ := Kd.at_int (Kd.V_reads' HO_1.out).2.2 1 p798 q798
         obtain rfl : ad797 = ad798 := (by injection e798)
         (try simp only [show (1 : Int).toNat = 1 from rfl, Nat.reduceMul, Nat.reduceEqDiff, Go.Addr.add, ↓reduceIte] at hx798_0)
         have qi798 : (1 < x1_1.length) = True := eq_true (by omega)
         (try rw [show ((1 : Int)).toNat = 1 from rfl] at hx798_0)
         replace p798 := eq_true p798
         replace q798 := eq_true q798
         refine start_ (n := 8) (S := fun w' => w'.cell? ad797 = some (.int .i64 (rd x1_1 0)) ∧ w'.cell? ⟨ad797.block, ad797.off + 1, none⟩ = some (.int .i64 (rd x1_1 1))) (ds := []) #[false, false, false, false, false, false, false, false] (by kernel_rfl) rfl rfl ⟨hx797_0, hx798_0⟩ (fun hHeld => ?_); refine with_tabW node_row.tab2 node_row.bits2 (fun HT_ HW_ => ?_)
         generalize wr.drew = w22 at HO_1 HO_796003 BK795 BK796 HB hx797_0 hx798_0 hHeld ⊢
         refine pure_ (i := 0) (N := some 11) (v := ?_) (a' := ?_) #[true, false, false, false, false, false, false, false] rfl rfl (any_of HT_.out (by kernel_rfl)) (fun _ _ _ h => h) (Or.inl ⟨by rfl, ?_⟩) ?_ ?_
         rotate_left
         ·
          intro w'
          go_simp
          first | with_reducible rfl | (rw [own_len_N ?hl_ ?hu_]; (case hl_ => assumption); (case hu_ => kernel_rfl); (try with_reducible rfl)) | (rw [own_len_R ?hl_ ?hu_]; (case hl_ => assumption); (case hu_ => kernel_rfl); (try with_reducible rfl))
         rotate_left
         ·
          simp only [Act.put, List.setIfInBounds_toArray, List.set_cons_zero, List.set_cons_succ, i64_w, i32_w]
          rfl
         refine pure_ (i := 1) (N := some 12) (v := ?_) (a' := ?_) #[true, true, false, false, false, false, false, false] rfl rfl (any_of HT_.out (by kernel_rfl)) (fun _ _ _ h => h) (Or.inl ⟨by rfl, ?_⟩) ?_ ?_
         rotate_left
         ·
          intro w'
          go_simp
          first | with_reducible rfl | (rw [own_len_N ?hl_ ?hu_]; (case hl_ => assumption); (case hu_ => kernel_rfl); (try with_reducible rfl)) | (rw [own_len_R ?hl_ ?hu_]; (case hl_ => assumption); (case hu_ => kernel_rfl); (try with_reducible rfl))
         rotate_left
         ·
          simp only [Act.put, List.setIfInBounds_toArray, List.set_cons_zero, List.set_cons_succ, i64_w, i32_w]
          rfl
         refine pure_ (i := 3) (N := some 14) (v := ?_) (a' := ?_) #[true, true, false, true, false, false, false, false] rfl rfl (any_of HT_.out (by kernel_rfl)) (fun _ _ _ h => h) (Or.inl ⟨by rfl, ?_⟩) ?_ ?_
         rotate_left
         ·
          intro w'
          go_simp
          first | with_reducible rfl | (rw [own_len_N ?hl_ ?hu_]; (case hl_ => assumption); (case hu_ => kernel_rfl); (try with_reducible rfl)) | (rw [own_len_R ?hl_ ?hu_]; (case hl_ => assumption); (case hu_ => kernel_rfl); (try with_reducible rfl))
         rotate_left
         ·
          simp only [Act.put, List.setIfInBounds_toArray, List.set_cons_zero, List.set_cons_succ, i64_w, i32_w]
          rfl
         refine pure_ (i := 4) (N := some 15) (v := ?_) (a' := ?_) #[true, true, false, true, true, false, false, false] rfl rfl (any_of HT_.out (by kernel_rfl)) (fun _ _ _ h => h) (Or.inl ⟨by rfl, ?_⟩) ?_ ?_
         rotate_left
         ·
          intro w'
          go_simp
          first | with_reducible rfl | (rw [own_len_N ?hl_ ?hu_]; (case hl_ => assumption); (case hu_ => kernel_rfl); (try with_reducible rfl)) | (rw [own_len_R ?hl_ ?hu_]; (case hl_ => assumption); (case hu_ => kernel_rfl); (try with_reducible rfl))
         rotate_left
         ·
          simp only [Act.put, List.setIfInBounds_toArray, List.set_cons_zero, List.set_cons_succ, i64_w, i32_w]
          rfl
         refine take_ (i := 2) (N := some 13) (v := ?_) (a' := ?_) #[true, true, true, true, true, false, false, false] rfl rfl (take_ofW HT_.out HW_.out (by kernel_rfl)) (fun _ _ _ h => h) (Or.inl ⟨by rfl, ?_⟩) hHeld ?_ ?_
         rotate_left
         ·
          rintro w' ⟨s0, s1⟩
          go_simp
          with_reducible rfl
         rotate_left
         ·
          simp only [Act.put, List.setIfInBounds_toArray, List.set_cons_zero, List.set_cons_succ, i64_w, i32_w]
          rfl
         refine pure_ (i := 6) (N := some 6) (v := ?_) (a' := ?_) #[true, true, true, true, true, false, true, false] rfl rfl (any_of HT_.out (by kernel_rfl)) (fun _ _ _ h => h) (Or.inl ⟨by rfl, ?_⟩) ?_ ?_
         rotate_left
         ·
          intro w'
          go_simp
          first | with_reducible rfl | (rw [own_len_N ?hl_ ?hu_]; (case hl_ => assumption); (case hu_ => kernel_rfl); (try with_reducible rfl)) | (rw [own_len_R ?hl_ ?hu_]; (case hl_ => assumption); (case hu_ => kernel_rfl); (try with_reducible rfl))
         rotate_left
         ·
          simp only [Act.put, List.setIfInBounds_toArray, List.set_cons_zero, List.set_cons_succ, i64_w, i32_w]
          rfl
         refine take_ (i := 5) (N := some 16) (v := ?_) (a' := ?_) #[true, true, true, true, true, true, true, false] rfl rfl (take_ofW HT_.out HW_.out (by kernel_rfl)) (fun _ _ _ h => h) (Or.inl ⟨by rfl, ?_⟩) hHeld ?_ ?_
         rotate_left
         ·
          rintro w' ⟨s0, s1⟩
          go_simp
          with_reducible rfl
         rotate_left
         ·
          simp only [Act.put, List.setIfInBounds_toArray, List.set_cons_zero, List.set_cons_succ, i64_w, i32_w]
          rfl
         refine pure_ (i := 7) (N := some 7) (v := ?_) (a' := ?_) #[true, true, true, true, true, true, true, true] rfl rfl (any_of HT_.out (by kernel_rfl)) (fun _ _ _ h => h) (Or.inl ⟨by rfl, ?_⟩) ?_ ?_
         rotate_left
         ·
          intro w'
          go_simp
          first | with_reducible rfl | (rw [own_len_N ?hl_ ?hu_]; (case hl_ => assumption); (case hu_ => kernel_rfl); (try with_reducible rfl)) | (rw [own_len_R ?hl_ ?hu_]; (case hl_ => assumption); (case hu_ => kernel_rfl); (try with_reducible rfl))
         rotate_left
         ·
          simp only [Act.put, List.setIfInBounds_toArray, List.set_cons_zero, List.set_cons_succ, i64_w, i32_w]
          rfl
         refine done_ (done_of HT_.out (by kernel_rfl)) ?_
         have hnb23 := NB795_796.out
         have hnc23 := NB796_795.out
         have hcz24_0 : w22.cell? ⟨gb795, 0, none⟩ = some (.int .i64 x796000_1) := (blk_cell BK795.out 0).trans rfl
         have hcz24_1 : w22.cell? ⟨gb795, 1, none⟩ = some (.string x796001_1) := (blk_cell BK795.out 1).trans rfl
         have hcz24_2 : w22.cell? ⟨gb795, 2, none⟩ = some (.int .i64 x796002_1) := (blk_cell BK795.out 2).trans rfl
         have hcz24_3 : w22.cell? ⟨gb795, 3, none⟩ = some (u796003) := (blk_cell BK795.out 3).trans rfl
         have hfz24_0 := blk_frozen BK795.out 0
         have hfz24_1 := blk_frozen BK795.out 1
         have hfz24_2 := blk_frozen BK795.out 2
         have hfz24_3 := blk_frozen BK795.out 3
         obtain ⟨Ao25, co25, eo25⟩ := Kd.V_slice HO_796003.out
         subst eo25
         have hcz26_0 : w22.cell? ⟨gb796, 0, none⟩ = some (.int .i64 x797000_1) := (blk_cell BK796.out 0).trans rfl
         have hcz26_1 : w22.cell? ⟨gb796, 1, none⟩ = some (.string x797001_1) := (blk_cell BK796.out 1).trans rfl
         have hcz26_2 : w22.cell? ⟨gb796, 2, none⟩ = some (.int .i64 x797002_1) := (blk_cell BK796.out 2).trans rfl
         have hcz26_3 : w22.cell? ⟨gb796, 3, none⟩ = some (.slice none 0 0) := (blk_cell BK796.out 3).trans rfl
         have hfz26_0 := blk_frozen BK796.out 0
         have hfz26_1 := blk_frozen BK796.out 1
         have hfz26_2 := blk_frozen BK796.out 2
         have hfz26_3 := blk_frozen BK796.out 3
         try go_wp2
         refine bodyPost_ret (results_ct rfl _ _ gb796 36 #[.int .i64 0, .string (⟨#[]⟩ : ByteArray), .int .i64 0, .slice none 0 0] (0, 0) _ rfl (by (with_reducible repeat (first | refine blk_drewN ?_ _ | refine blk_drew ?_ | refine blk_alloc ?_ _)); refine blk_put (cs := #[.int .i64 0, .string (⟨#[]⟩ : ByteArray), .int .i64 0, .slice none 0 0]) ?_ 3 _ rfl; (with_reducible repeat (first | refine blk_drewN ?_ _ | refine blk_drew ?_ | refine blk_alloc ?_ _)); refine blk_put (cs := #[.int .i64 0, .string (⟨#[]⟩ : ByteArray), .int .i64 x797002_1, .slice none 0 0]) ?_ 2 _ rfl; (with_reducible repeat (first | refine blk_drewN ?_ _ | refine blk_drew ?_ | refine blk_alloc ?_ _)); refine blk_put (cs := #[.int .i64 0, .string x797001_1, .int .i64 x797002_1, .slice none 0 0]) ?_ 1 _ rfl; (with_reducible repeat (first | refine blk_drewN ?_ _ | refine blk_drew ?_ | refine blk_alloc ?_ _)); refine blk_put (cs := #[.int .i64 x797000_1, .string x797001_1, .int .i64 x797002_1, .slice none 0 0]) ?_ 0 _ rfl; (with_reducible repeat (first | refine blk_drewN ?_ _ | refine blk_drew ?_ | refine blk_alloc ?_ _)); exact BK796.out) Tryd.underlying36 rfl (by kernel_rfl)) rfl ?_
         exact ⟨_, by first | rfl | (simp [errW_none, errW_some] <;> rfl) | (simp [*, errW_none, errW_some] <;> rfl), Kd.V_nil _ _ _ _ _, by repeat (first | (with_reducible first | exact HB.out | apply below_alloc | apply pw_below_drewN | apply below_drew1 | refine below_set ?_ GE795.out | refine below_set ?_ GE796.out) | exact HB.out)⟩
        ·
         rw [if_neg c20] at H
         have c20b0 : decide ((rd x1_1 1) < 0) = false := decide_eq_false c20
         clear c20
         by_cases c27 : 0 ≤ (rd x1_1 0)
         ·
          rw [if_pos c27] at H
          have c27b0 : decide (0 ≤ (rd x1_1 0)) = true := decide_eq_true c27
          clear c27
          by_cases c28 : (rd x1_1 0) < (x796003_1.length : Int)
          ·
           rw [if_pos c28] at H
           have c28b0 : decide ((rd x1_1 0) < (x796003_1.length : Int)) = true := decide_eq_true c28
           clear c28
           by_cases c29 : (rd x1_1 1) ≥ (((rd_T36 x796003_1 (rd x1_1 0)).f3).length : Int)
           ·
            rw [if_pos c29] at H
            have c29b0 : decide ((((rd_T36 x796003_1 (rd x1_1 0)).f3).length : Int) ≤ (rd x1_1 1)) = true := decide_eq_true c29
            clear c29
            simp only [Option.some.injEq, Prod.mk.injEq] at H
            obtain ⟨rfl, rfl, rfl, rfl, rfl⟩ := H
            obtain ⟨Ao30, co30, eo30⟩ := Kd.V_slice HO_1.out
            subst eo30
            try go_wp2
            have n0_ := Aside0.mk (Kd.V_drew HO_1.out)
            have n1_ := Aside0.mk (Kd.V_drew HO_796003.out)
            have n2_ := Aside0.mk (blk_drew BK795.out)
            have n3_ := Aside0.mk (blk_drew BK796.out)
            have n4_ := Aside0.mk (below_drew1 HB.out)
            clear HO_1
            clear HO_796003
            clear BK795
            clear BK796
            clear HB
            have HO_1 := n0_
            have HO_796003 := n1_
            have BK795 := n2_
            have BK796 := n3_
            have HB := n4_
            clear n0_ n1_ n2_ n3_ n4_
            have p797 : 0 ≤ (0 : Int) := (by omega)
            have q797 : 0 < (x1_1.length : Int) := of_decide_eq_true (by first | (with_reducible assumption) | assumption)
            obtain ⟨ad797, e797, hx797_0⟩ := Kd.at_int (Kd.V_reads' HO_1.out).2.2 0 p797 q797
            cases e797
            have qi797 : (0 < x1_1.length) = True := eq_true (by omega)
            (try rw [show ((0 : Int)).toNat = 0 from rfl] at hx797_0)
            (try rw [Addr.add_zero'] at hx797_0)
            replace p797 := eq_true p797
            replace q797 := eq_true q797
            have p798 : 0 ≤ (1 : Int) := (by omega)
            have q798 : 1 < (x1_1.length : Int) := of_decide_eq_true (by first | (with_reducible assumption) | assumption)
            obtain ⟨ad798, e798, hx798_0⟩ := Kd.at_int (Kd.V_reads' HO_1.out).2.2 1 p798 q798
            obtain rfl : ad797 = ad798 := (by injection e798)
            (try simp only [show (1 : Int).toNat = 1 from rfl, Nat.reduceMul, Nat.reduceEqDiff, Go.Addr.add, ↓reduceIte] at hx798_0)
            have qi798 : (1 < x1_1.length) = True := eq_true (by omega)
            (try rw [show ((1 : Int)).toNat = 1 from rfl] at hx798_0)
            replace p798 := eq_true p798
            replace q798 := eq_true q798
            refine start_ (n := 8) (S := fun w' => w'.cell? ad797 = some (.int .i64 (rd x1_1 0)) ∧ w'.cell? ⟨ad797.block, ad797.off + 1, none⟩ = some (.int .i64 (rd x1_1 1))) (ds := []) #[false, false, false, false, false, false, false, false] (by kernel_rfl) rfl rfl ⟨hx797_0, hx798_0⟩ (fun hHeld => ?_); refine with_tabW node_row.tab2 node_row.bits2 (fun HT_ HW_ => ?_)
            generalize wr.drew = w31 at HO_1 HO_796003 BK795 BK796 HB hx797_0 hx798_0 hHeld ⊢
            refine pure_ (i := 0) (N := some 11) (v := ?_) (a' := ?_) #[true, false, false, false, false, false, false, false] rfl rfl (any_of HT_.out (by kernel_rfl)) (fun _ _ _ h => h) (Or.inl ⟨by rfl, ?_⟩) ?_ ?_
            rotate_left
            ·
             intro w'
             go_simp
             first | with_reducible rfl | (rw [own_len_N ?hl_ ?hu_]; (case hl_ => assumption); (case hu_ => kernel_rfl); (try with_reducible rfl)) | (rw [own_len_R ?hl_ ?hu_]; (case hl_ => assumption); (case hu_ => kernel_rfl); (try with_reducible rfl))
            rotate_left
            ·
             simp only [Act.put, List.setIfInBounds_toArray, List.set_cons_zero, List.set_cons_succ, i64_w, i32_w]
             rfl
            refine pure_ (i := 1) (N := some 12) (v := ?_) (a' := ?_) #[true, true, false, false, false, false, false, false] rfl rfl (any_of HT_.out (by kernel_rfl)) (fun _ _ _ h => h) (Or.inl ⟨by rfl, ?_⟩) ?_ ?_
            rotate_left
            ·
             intro w'
             go_simp
             first | with_reducible rfl | (rw [own_len_N ?hl_ ?hu_]; (case hl_ => assumption); (case hu_ => kernel_rfl); (try with_reducible rfl)) | (rw [own_len_R ?hl_ ?hu_]; (case hl_ => assumption); (case hu_ => kernel_rfl); (try with_reducible rfl))
            rotate_left
            ·
             simp only [Act.put, List.setIfInBounds_toArray, List.set_cons_zero, List.set_cons_succ, i64_w, i32_w]
             rfl
            refine pure_ (i := 3) (N := some 14) (v := ?_) (a' := ?_) #[true, true, false, true, false, false, false, false] rfl rfl (any_of HT_.out (by kernel_rfl)) (fun _ _ _ h => h) (Or.inl ⟨by rfl, ?_⟩) ?_ ?_
            rotate_left
            ·
             intro w'
             go_simp
             first | with_reducible rfl | (rw [own_len_N ?hl_ ?hu_]; (case hl_ => assumption); (case hu_ => kernel_rfl); (try with_reducible rfl)) | (rw [own_len_R ?hl_ ?hu_]; (case hl_ => assumption); (case hu_ => kernel_rfl); (try with_reducible rfl))
            rotate_left
            ·
             simp only [Act.put, List.setIfInBounds_toArray, List.set_cons_zero, List.set_cons_succ, i64_w, i32_w]
             rfl
            refine pure_ (i := 4) (N := some 15) (v := ?_) (a' := ?_) #[true, true, false, true, true, false, false, false] rfl rfl (any_of HT_.out (by kernel_rfl)) (fun _ _ _ h => h) (Or.inl ⟨by rfl, ?_⟩) ?_ ?_
            rotate_left
            ·
             intro w'
             go_simp
             first | with_reducible rfl | (rw [own_len_N ?hl_ ?hu_]; (case hl_ => assumption); (case hu_ => kernel_rfl); (try with_reducible rfl)) | (rw [own_len_R ?hl_ ?hu_]; (case hl_ => assumption); (case hu_ => kernel_rfl); (try with_reducible rfl))
            rotate_left
            ·
             simp only [Act.put, List.setIfInBounds_toArray, List.set_cons_zero, List.set_cons_succ, i64_w, i32_w]
             rfl
            refine take_ (i := 2) (N := some 13) (v := ?_) (a' := ?_) #[true, true, true, true, true, false, false, false] rfl rfl (take_ofW HT_.out HW_.out (by kernel_rfl)) (fun _ _ _ h => h) (Or.inl ⟨by rfl, ?_⟩) hHeld ?_ ?_
            rotate_left
            ·
             rintro w' ⟨s0, s1⟩
             go_simp
             with_reducible rfl
            rotate_left
            ·
             simp only [Act.put, List.setIfInBounds_toArray, List.set_cons_zero, List.set_cons_succ, i64_w, i32_w]
             rfl
            refine pure_ (i := 6) (N := some 6) (v := ?_) (a' := ?_) #[true, true, true, true, true, false, true, false] rfl rfl (any_of HT_.out (by kernel_rfl)) (fun _ _ _ h => h) (Or.inl ⟨by rfl, ?_⟩) ?_ ?_
            rotate_left
            ·
             intro w'
             go_simp
             first | with_reducible rfl | (rw [own_len_N ?hl_ ?hu_]; (case hl_ => assumption); (case hu_ => kernel_rfl); (try with_reducible rfl)) | (rw [own_len_R ?hl_ ?hu_]; (case hl_ => assumption); (case hu_ => kernel_rfl); (try with_reducible rfl))
            rotate_left
            ·
             simp only [Act.put, List.setIfInBounds_toArray, List.set_cons_zero, List.set_cons_succ, i64_w, i32_w]
             rfl
            refine take_ (i := 5) (N := some 16) (v := ?_) (a' := ?_) #[true, true, true, true, true, true, true, false] rfl rfl (take_ofW HT_.out HW_.out (by kernel_rfl)) (fun _ _ _ h => h) (Or.inl ⟨by rfl, ?_⟩) hHeld ?_ ?_
            rotate_left
            ·
             rintro w' ⟨s0, s1⟩
             go_simp
             with_reducible rfl
            rotate_left
            ·
             simp only [Act.put, List.setIfInBounds_toArray, List.set_cons_zero, List.set_cons_succ, i64_w, i32_w]
             rfl
            refine pure_ (i := 7) (N := some 7) (v := ?_) (a' := ?_) #[true, true, true, true, true, true, true, true] rfl rfl (any_of HT_.out (by kernel_rfl)) (fun _ _ _ h => h) (Or.inl ⟨by rfl, ?_⟩) ?_ ?_
            rotate_left
            ·
             intro w'
             go_simp
             first | with_reducible rfl | (rw [own_len_N ?hl_ ?hu_]; (case hl_ => assumption); (case hu_ => kernel_rfl); (try with_reducible rfl)) | (rw [own_len_R ?hl_ ?hu_]; (case hl_ => assumption); (case hu_ => kernel_rfl); (try with_reducible rfl))
            rotate_left
            ·
             simp only [Act.put, List.setIfInBounds_toArray, List.set_cons_zero, List.set_cons_succ, i64_w, i32_w]
             rfl
            refine done_ (done_of HT_.out (by kernel_rfl)) ?_
            have hnb32 := NB795_796.out
            have hnc32 := NB796_795.out
            have hcz33_0 : w31.cell? ⟨gb795, 0, none⟩ = some (.int .i64 x796000_1) := (blk_cell BK795.out 0).trans rfl
            have hcz33_1 : w31.cell? ⟨gb795, 1, none⟩ = some (.string x796001_1) := (blk_cell BK795.out 1).trans rfl
            have hcz33_2 : w31.cell? ⟨gb795, 2, none⟩ = some (.int .i64 x796002_1) := (blk_cell BK795.out 2).trans rfl
            have hcz33_3 : w31.cell? ⟨gb795, 3, none⟩ = some (u796003) := (blk_cell BK795.out 3).trans rfl
            have hfz33_0 := blk_frozen BK795.out 0
            have hfz33_1 := blk_frozen BK795.out 1
            have hfz33_2 := blk_frozen BK795.out 2
            have hfz33_3 := blk_frozen BK795.out 3
            obtain ⟨Ao34, co34, eo34⟩ := Kd.V_slice HO_796003.out
            subst eo34
            have p799 : 0 ≤ ((rd x1_1 0) : Int) := of_decide_eq_true (by first | (with_reducible assumption) | assumption)
            have q799 : (rd x1_1 0) < (x796003_1.length : Int) := of_decide_eq_true (by first | (with_reducible assumption) | assumption)
            obtain ⟨ad799, A799_3, c799_3, e799, hx799_0, hx799_1, hx799_2, hx799_3, hl799_3, hi799_3⟩ := at_T36 (Kd.V_reads' HO_796003.out).2.2 (rd x1_1 0) p799 q799
            cases e799
            obtain ⟨ce799, hce799, hMe799, hcc799⟩ := Kd.V_get HO_796003.out z36 (rd x1_1 0) p799 (by first | exact q799 | exact of_decide_eq_true (by first | (with_reducible assumption) | assumption) | (have e_ := (Kd.V_reads' HO_796003.out).1; omega))
            obtain ⟨ua799_3, uc799_3, rfl, ul799_3, ge799_3⟩ := k36_openF hMe799
            have hv799_3 := hcc799 3 _ rfl
            rw [add_field _ _ 3 (by omega)] at hv799_3
            replace hv799_3 := Option.some.inj (hv799_3.symm.trans hx799_3)
            injection hv799_3 with hva_ hvn_ hvc_
            rw [hva_] at ge799_3
            rw [hvc_] at ul799_3
            have HL799_3 := Aside0.mk (show Kd.V k36 36 _ w.heap.size _ _ ((rd_T36 x796003_1 (rd x1_1 0)).f3) from Kd.V_mk ul799_3 ge799_3)
            clear hva_ hvn_ hvc_ ge799_3 ul799_3
            clear hcc799 hce799
            have HR799_3 := Aside0.mk hi799_3
            have HC799_3 := Aside0.mk hl799_3
            clear hi799_3 hl799_3
            replace p799 := eq_true p799
            replace q799 := eq_true q799
            have hcz35_0 : w31.cell? ⟨gb796, 0, none⟩ = some (.int .i64 x797000_1) := (blk_cell BK796.out 0).trans rfl
            have hcz35_1 : w31.cell? ⟨gb796, 1, none⟩ = some (.string x797001_1) := (blk_cell BK796.out 1).trans rfl
            have hcz35_2 : w31.cell? ⟨gb796, 2, none⟩ = some (.int .i64 x797002_1) := (blk_cell BK796.out 2).trans rfl
            have hcz35_3 : w31.cell? ⟨gb796, 3, none⟩ = some (.slice none 0 0) := (blk_cell BK796.out 3).trans rfl
            have hfz35_0 := blk_frozen BK796.out 0
            have hfz35_1 := blk_frozen BK796.out 1
            have hfz35_2 := blk_frozen BK796.out 2
            have hfz35_3 := blk_frozen BK796.out 3
            try go_wp2
            refine bodyPost_ret (results_ct rfl _ _ gb796 36 #[.int .i64 0, .string (⟨#[]⟩ : ByteArray), .int .i64 0, .slice none 0 0] (0, 0) _ rfl (by (with_reducible repeat (first | refine blk_drewN ?_ _ | refine blk_drew ?_ | refine blk_alloc ?_ _)); refine blk_put (cs := #[.int .i64 0, .string (⟨#[]⟩ : ByteArray), .int .i64 0, .slice none 0 0]) ?_ 3 _ rfl; (with_reducible repeat (first | refine blk_drewN ?_ _ | refine blk_drew ?_ | refine blk_alloc ?_ _)); refine blk_put (cs := #[.int .i64 0, .string (⟨#[]⟩ : ByteArray), .int .i64 x797002_1, .slice none 0 0]) ?_ 2 _ rfl; (with_reducible repeat (first | refine blk_drewN ?_ _ | refine blk_drew ?_ | refine blk_alloc ?_ _)); refine blk_put (cs := #[.int .i64 0, .string x797001_1, .int .i64 x797002_1, .slice none 0 0]) ?_ 1 _ rfl; (with_reducible repeat (first | refine blk_drewN ?_ _ | refine blk_drew ?_ | refine blk_alloc ?_ _)); refine blk_put (cs := #[.int .i64 x797000_1, .string x797001_1, .int .i64 x797002_1, .slice none 0 0]) ?_ 0 _ rfl; (with_reducible repeat (first | refine blk_drewN ?_ _ | refine blk_drew ?_ | refine blk_alloc ?_ _)); exact BK796.out) Tryd.underlying36 rfl (by kernel_rfl)) rfl ?_
            exact ⟨_, by first | rfl | (simp [errW_none, errW_some] <;> rfl) | (simp [*, errW_none, errW_some] <;> rfl), Kd.V_nil _ _ _ _ _, by repeat (first | (with_reducible first | exact HB.out | apply below_alloc | apply pw_below_drewN | apply below_drew1 | refine below_set ?_ GE795.out | refine below_set ?_ GE796.out) | exact HB.out)⟩
           ·
            rw [if_neg c29] at H
            have c29b0 : decide ((((rd_T36 x796003_1 (rd x1_1 0)).f3).length : Int) ≤ (rd x1_1 1)) = false := decide_eq_false c29
            clear c29
            by_cases c36 : 0 ≤ (rd x1_1 1)
            ·
             rw [if_pos c36] at H
             have c36b0 : decide (0 ≤ (rd x1_1 1)) = true := decide_eq_true c36
             clear c36
             by_cases c37 : (rd x1_1 1) < (((rd_T36 x796003_1 (rd x1_1 0)).f3).length : Int)
             ·
              rw [if_pos c37] at H
              have c37b0 : decide ((rd x1_1 1) < (((rd_T36 x796003_1 (rd x1_1 0)).f3).length : Int)) = true := decide_eq_true c37
              clear c37
              by_cases c38 : 2 ≤ (x1_1.length : Int)
              ·
               rw [if_pos c38] at H
               have c38b0 := eq_true c38
               have c38b1 : decide (2 ≤ (x1_1.length : Int)) = true := decide_eq_true c38
               clear c38
               obtain ⟨y802, hy802⟩ : ∃ y_ : List Int, y_ = (x1_1.drop 2) := ⟨_, rfl⟩
               replace H : (node_row.l0 k1 y802 ((rd_T36 ((rd_T36 x796003_1 (rd x1_1 0)).f3) (rd x1_1 1)).f0) ((rd_T36 ((rd_T36 x796003_1 (rd x1_1 0)).f3) (rd x1_1 1)).f1) ((rd_T36 ((rd_T36 x796003_1 (rd x1_1 0)).f3) (rd x1_1 1)).f2) ((rd_T36 ((rd_T36 x796003_1 (rd x1_1 0)).f3) (rd x1_1 1)).f3)) = some (r1, r2, r3, r4, r5) := by first | (rw [hy802]; with_reducible exact H) | (have H2_ := (Option.bind_some _ _).symm.trans H; rw [hy802]; with_reducible exact H2_) | (have H2_ := (Option.bind_some _ _).symm.trans H; with_reducible exact H2_) | with_reducible exact H | (rw [hy802]; exact H) | exact H
               have Ny802 := Aside0.mk hy802
               clear hy802
               have H' := Aside0.mk H
               clear H
               obtain ⟨Ao39, co39, eo39⟩ := Kd.V_slice HO_1.out
               subst eo39
               try go_wp2
               have n0_ := Aside0.mk (Kd.V_drew HO_1.out)
               have n1_ := Aside0.mk (Kd.V_drew HO_796003.out)
               have n2_ := Aside0.mk (blk_drew BK795.out)
               have n3_ := Aside0.mk (blk_drew BK796.out)
               have n4_ := Aside0.mk (below_drew1 HB.out)
               clear HO_1
               clear HO_796003
               clear BK795
               clear BK796
               clear HB
               have HO_1 := n0_
               have HO_796003 := n1_
               have BK795 := n2_
               have BK796 := n3_
               have HB := n4_
               clear n0_ n1_ n2_ n3_ n4_
               have p797 : 0 ≤ (0 : Int) := (by omega)
               have q797 : 0 < (x1_1.length : Int) := of_decide_eq_true (by first | (with_reducible assumption) | assumption)
               obtain ⟨ad797, e797, hx797_0⟩ := Kd.at_int (Kd.V_reads' HO_1.out).2.2 0 p797 q797
               cases e797
               have qi797 : (0 < x1_1.length) = True := eq_true (by omega)
               (try rw [show ((0 : Int)).toNat = 0 from rfl] at hx797_0)
               (try rw [Addr.add_zero'] at hx797_0)
               replace p797 := eq_true p797
               replace q797 := eq_true q797
               have p798 : 0 ≤ (1 : Int) := (by omega)
               have q798 : 1 < (x1_1.length : Int) := of_decide_eq_true (by first | (with_reducible assumption) | assumption)
               obtain ⟨ad798, e798, hx798_0⟩ := Kd.at_int (Kd.V_reads' HO_1.out).2.2 1 p798 q798
               obtain rfl : ad797 = ad798 := (by injection e798)
               (try simp only [show (1 : Int).toNat = 1 from rfl, Nat.reduceMul, Nat.reduceEqDiff, Go.Addr.add, ↓reduceIte] at hx798_0)
               have qi798 : (1 < x1_1.length) = True := eq_true (by omega)
               (try rw [show ((1 : Int)).toNat = 1 from rfl] at hx798_0)
               replace p798 := eq_true p798
               replace q798 := eq_true q798
               refine start_ (n := 8) (S := fun w' => w'.cell? ad797 = some (.int .i64 (rd x1_1 0)) ∧ w'.cell? ⟨ad797.block, ad797.off + 1, none⟩ = some (.int .i64 (rd x1_1 1))) (ds := []) #[false, false, false, false, false, false, false, false] (by kernel_rfl) rfl rfl ⟨hx797_0, hx798_0⟩ (fun hHeld => ?_); refine with_tabW node_row.tab2 node_row.bits2 (fun HT_ HW_ => ?_)
               generalize wr.drew = w40 at HO_1 HO_796003 BK795 BK796 HB hx797_0 hx798_0 hHeld ⊢
               refine pure_ (i := 0) (N := some 11) (v := ?_) (a' := ?_) #[true, false, false, false, false, false, false, false] rfl rfl (any_of HT_.out (by kernel_rfl)) (fun _ _ _ h => h) (Or.inl ⟨by rfl, ?_⟩) ?_ ?_
               rotate_left
               ·
                intro w'
                go_simp
                first | with_reducible rfl | (rw [own_len_N ?hl_ ?hu_]; (case hl_ => assumption); (case hu_ => kernel_rfl); (try with_reducible rfl)) | (rw [own_len_R ?hl_ ?hu_]; (case hl_ => assumption); (case hu_ => kernel_rfl); (try with_reducible rfl))
               rotate_left
               ·
                simp only [Act.put, List.setIfInBounds_toArray, List.set_cons_zero, List.set_cons_succ, i64_w, i32_w]
                rfl
               refine pure_ (i := 1) (N := some 12) (v := ?_) (a' := ?_) #[true, true, false, false, false, false, false, false] rfl rfl (any_of HT_.out (by kernel_rfl)) (fun _ _ _ h => h) (Or.inl ⟨by rfl, ?_⟩) ?_ ?_
               rotate_left
               ·
                intro w'
                go_simp
                first | with_reducible rfl | (rw [own_len_N ?hl_ ?hu_]; (case hl_ => assumption); (case hu_ => kernel_rfl); (try with_reducible rfl)) | (rw [own_len_R ?hl_ ?hu_]; (case hl_ => assumption); (case hu_ => kernel_rfl); (try with_reducible rfl))
               rotate_left
               ·
                simp only [Act.put, List.setIfInBounds_toArray, List.set_cons_zero, List.set_cons_succ, i64_w, i32_w]
                rfl
               refine pure_ (i := 3) (N := some 14) (v := ?_) (a' := ?_) #[true, true, false, true, false, false, false, false] rfl rfl (any_of HT_.out (by kernel_rfl)) (fun _ _ _ h => h) (Or.inl ⟨by rfl, ?_⟩) ?_ ?_
               rotate_left
               ·
                intro w'
                go_simp
                first | with_reducible rfl | (rw [own_len_N ?hl_ ?hu_]; (case hl_ => assumption); (case hu_ => kernel_rfl); (try with_reducible rfl)) | (rw [own_len_R ?hl_ ?hu_]; (case hl_ => assumption); (case hu_ => kernel_rfl); (try with_reducible rfl))
               rotate_left
               ·
                simp only [Act.put, List.setIfInBounds_toArray, List.set_cons_zero, List.set_cons_succ, i64_w, i32_w]
                rfl
               refine pure_ (i := 4) (N := some 15) (v := ?_) (a' := ?_) #[true, true, false, true, true, false, false, false] rfl rfl (any_of HT_.out (by kernel_rfl)) (fun _ _ _ h => h) (Or.inl ⟨by rfl, ?_⟩) ?_ ?_
               rotate_left
               ·
                intro w'
                go_simp
                first | with_reducible rfl | (rw [own_len_N ?hl_ ?hu_]; (case hl_ => assumption); (case hu_ => kernel_rfl); (try with_reducible rfl)) | (rw [own_len_R ?hl_ ?hu_]; (case hl_ => assumption); (case hu_ => kernel_rfl); (try with_reducible rfl))
               rotate_left
               ·
                simp only [Act.put, List.setIfInBounds_toArray, List.set_cons_zero, List.set_cons_succ, i64_w, i32_w]
                rfl
               refine take_ (i := 2) (N := some 13) (v := ?_) (a' := ?_) #[true, true, true, true, true, false, false, false] rfl rfl (take_ofW HT_.out HW_.out (by kernel_rfl)) (fun _ _ _ h => h) (Or.inl ⟨by rfl, ?_⟩) hHeld ?_ ?_
               rotate_left
               ·
                rintro w' ⟨s0, s1⟩
                go_simp
                with_reducible rfl
               rotate_left
               ·
                simp only [Act.put, List.setIfInBounds_toArray, List.set_cons_zero, List.set_cons_succ, i64_w, i32_w]
                rfl
               refine pure_ (i := 6) (N := some 6) (v := ?_) (a' := ?_) #[true, true, true, true, true, false, true, false] rfl rfl (any_of HT_.out (by kernel_rfl)) (fun _ _ _ h => h) (Or.inl ⟨by rfl, ?_⟩) ?_ ?_
               rotate_left
               ·
                intro w'
                go_simp
                first | with_reducible rfl | (rw [own_len_N ?hl_ ?hu_]; (case hl_ => assumption); (case hu_ => kernel_rfl); (try with_reducible rfl)) | (rw [own_len_R ?hl_ ?hu_]; (case hl_ => assumption); (case hu_ => kernel_rfl); (try with_reducible rfl))
               rotate_left
               ·
                simp only [Act.put, List.setIfInBounds_toArray, List.set_cons_zero, List.set_cons_succ, i64_w, i32_w]
                rfl
               refine take_ (i := 5) (N := some 16) (v := ?_) (a' := ?_) #[true, true, true, true, true, true, true, false] rfl rfl (take_ofW HT_.out HW_.out (by kernel_rfl)) (fun _ _ _ h => h) (Or.inl ⟨by rfl, ?_⟩) hHeld ?_ ?_
               rotate_left
               ·
                rintro w' ⟨s0, s1⟩
                go_simp
                with_reducible rfl
               rotate_left
               ·
                simp only [Act.put, List.setIfInBounds_toArray, List.set_cons_zero, List.set_cons_succ, i64_w, i32_w]
                rfl
               refine pure_ (i := 7) (N := some 7) (v := ?_) (a' := ?_) #[true, true, true, true, true, true, true, true] rfl rfl (any_of HT_.out (by kernel_rfl)) (fun _ _ _ h => h) (Or.inl ⟨by rfl, ?_⟩) ?_ ?_
               rotate_left
               ·
                intro w'
                go_simp
                first | with_reducible rfl | (rw [own_len_N ?hl_ ?hu_]; (case hl_ => assumption); (case hu_ => kernel_rfl); (try with_reducible rfl)) | (rw [own_len_R ?hl_ ?hu_]; (case hl_ => assumption); (case hu_ => kernel_rfl); (try with_reducible rfl))
               rotate_left
               ·
                simp only [Act.put, List.setIfInBounds_toArray, List.set_cons_zero, List.set_cons_succ, i64_w, i32_w]
                rfl
               refine done_ (done_of HT_.out (by kernel_rfl)) ?_
               have hnb41 := NB795_796.out
               have hnc41 := NB796_795.out
               have hcz42_0 : w40.cell? ⟨gb795, 0, none⟩ = some (.int .i64 x796000_1) := (blk_cell BK795.out 0).trans rfl
               have hcz42_1 : w40.cell? ⟨gb795, 1, none⟩ = some (.string x796001_1) := (blk_cell BK795.out 1).trans rfl
               have hcz42_2 : w40.cell? ⟨gb795, 2, none⟩ = some (.int .i64 x796002_1) := (blk_cell BK795.out 2).trans rfl
               have hcz42_3 : w40.cell? ⟨gb795, 3, none⟩ = some (u796003) := (blk_cell BK795.out 3).trans rfl
               have hfz42_0 := blk_frozen BK795.out 0
               have hfz42_1 := blk_frozen BK795.out 1
               have hfz42_2 := blk_frozen BK795.out 2
               have hfz42_3 := blk_frozen BK795.out 3
               obtain ⟨Ao43, co43, eo43⟩ := Kd.V_slice HO_796003.out
               subst eo43
               have p799 : 0 ≤ ((rd x1_1 0) : Int) := of_decide_eq_true (by first | (with_reducible assumption) | assumption)
               have q799 : (rd x1_1 0) < (x796003_1.length : Int) := of_decide_eq_true (by first | (with_reducible assumption) | assumption)
               obtain ⟨ad799, A799_3, c799_3, e799, hx799_0, hx799_1, hx799_2, hx799_3, hl799_3, hi799_3⟩ := at_T36 (Kd.V_reads' HO_796003.out).2.2 (rd x1_1 0) p799 q799
               cases e799
               obtain ⟨ce799, hce799, hMe799, hcc799⟩ := Kd.V_get HO_796003.out z36 (rd x1_1 0) p799 (by first | exact q799 | exact of_decide_eq_true (by first | (with_reducible assumption) | assumption) | (have e_ := (Kd.V_reads' HO_796003.out).1; omega))
               obtain ⟨ua799_3, uc799_3, rfl, ul799_3, ge799_3⟩ := k36_openF hMe799
               have hv799_3 := hcc799 3 _ rfl
               rw [add_field _ _ 3 (by omega)] at hv799_3
               replace hv799_3 := Option.some.inj (hv799_3.symm.trans hx799_3)
               injection hv799_3 with hva_ hvn_ hvc_
               rw [hva_] at ge799_3
               rw [hvc_] at ul799_3
               have HL799_3 := Aside0.mk (show Kd.V k36 36 _ w.heap.size _ _ ((rd_T36 x796003_1 (rd x1_1 0)).f3) from Kd.V_mk ul799_3 ge799_3)
               clear hva_ hvn_ hvc_ ge799_3 ul799_3
               clear hcc799 hce799
               have HR799_3 := Aside0.mk hi799_3
               have HC799_3 := Aside0.mk hl799_3
               clear hi799_3 hl799_3
               replace p799 := eq_true p799
               replace q799 := eq_true q799
               try go_wp2
               have n0_ := Aside0.mk (Kd.V_drew HO_1.out)
               have n1_ := Aside0.mk (Kd.V_drew HO_796003.out)
               have n2_ := Aside0.mk (Kd.V_drew HL799_3.out)
               have n3_ := Aside0.mk (blk_drew BK795.out)
               have n4_ := Aside0.mk (blk_drew BK796.out)
               have n5_ := Aside0.mk (Kd.C_drew HR799_3.out)
               have n6_ := Aside0.mk (below_drew1 HB.out)
               clear HO_1
               clear HO_796003
               clear HL799_3
               clear BK795
               clear BK796
               clear HR799_3
               clear HB
               have HO_1 := n0_
               have HO_796003 := n1_
               have HL799_3 := n2_
               have BK795 := n3_
               have BK796 := n4_
               have HR799_3 := n5_
               have HB := n6_
               clear n0_ n1_ n2_ n3_ n4_ n5_ n6_
               have p800 : 0 ≤ ((rd x1_1 0) : Int) := of_decide_eq_true (by first | (with_reducible assumption) | assumption)
               have q800 : (rd x1_1 0) < (x796003_1.length : Int) := of_decide_eq_true (by first | (with_reducible assumption) | assumption)
               obtain ⟨ad800, A800_3, c800_3, e800, hx800_0, hx800_1, hx800_2, hx800_3, hl800_3, hi800_3⟩ := at_T36 (Kd.V_reads' HO_796003.out).2.2 (rd x1_1 0) p800 q800
               obtain rfl : ad799 = ad800 := (by injection e800)
               obtain ⟨ce800, hce800, hMe800, hcc800⟩ := Kd.V_get HO_796003.out z36 (rd x1_1 0) p800 (by first | exact q800 | exact of_decide_eq_true (by first | (with_reducible assumption) | assumption) | (have e_ := (Kd.V_reads' HO_796003.out).1; omega))
               obtain ⟨ua800_3, uc800_3, rfl, ul800_3, ge800_3⟩ := k36_openF hMe800
               have hv800_3 := hcc800 3 _ rfl
               rw [add_field _ _ 3 (by omega)] at hv800_3
               replace hv800_3 := Option.some.inj (hv800_3.symm.trans hx800_3)
               injection hv800_3 with hva_ hvn_ hvc_
               rw [hva_] at ge800_3
               rw [hvc_] at ul800_3
               have HL800_3 := Aside0.mk (show Kd.V k36 36 _ w.heap.size _ _ ((rd_T36 x796003_1 (rd x1_1 0)).f3) from Kd.V_mk ul800_3 ge800_3)
               clear hva_ hvn_ hvc_ ge800_3 ul800_3
               clear hcc800 hce800
               have HR800_3 := Aside0.mk hi800_3
               have HC800_3 := Aside0.mk hl800_3
               clear hi800_3 hl800_3
               replace p800 := eq_true p800
               replace q800 := eq_true q800
               have p801 : 0 ≤ ((rd x1_1 1) : Int) := of_decide_eq_true (by first | (with_reducible assumption) | assumption)
               have q801 : (rd x1_1 1) < (((rd_T36 x796003_1 (rd x1_1 0)).f3).length : Int) := of_decide_eq_true (by first | (with_reducible assumption) | assumption)
               obtain ⟨ad801, A801_3, c801_3, e801, hx801_0, hx801_1, hx801_2, hx801_3, hl801_3, hi801_3⟩ := at_T36 (by repeat (first | (with_reducible exact HR800_3.out) | (with_reducible refine Kd.C_alloc ?_ _) | (with_reducible refine Kd.C_drewN ?_ _) | (with_reducible refine Kd.C_drew ?_) | exact HR800_3.out)) (rd x1_1 1) p801 q801
               cases e801
               obtain ⟨ce801, hce801, hMe801, hcc801⟩ := Kd.V_get HL800_3.out z36 (rd x1_1 1) p801 (by first | exact q801 | exact of_decide_eq_true (by first | (with_reducible assumption) | assumption) | (have e_ := (Kd.V_reads' HL800_3.out).1; omega))
               obtain ⟨ua801_3, uc801_3, rfl, ul801_3, ge801_3⟩ := k36_openF hMe801
               have hv801_3 := hcc801 3 _ rfl
               rw [add_field _ _ 3 (by omega)] at hv801_3
               replace hv801_3 := Option.some.inj (hv801_3.symm.trans hx801_3)
               injection hv801_3 with hva_ hvn_ hvc_
               rw [hva_] at ge801_3
               rw [hvc_] at ul801_3
               have HL801_3 := Aside0.mk (show Kd.V k36 36 _ w.heap.size _ _ ((rd_T36 ((rd_T36 x796003_1 (rd x1_1 0)).f3) (rd x1_1 1)).f3) from Kd.V_mk ul801_3 ge801_3)
               clear hva_ hvn_ hvc_ ge801_3 ul801_3
               clear hcc801 hce801
               have HR801_3 := Aside0.mk hi801_3
               have HC801_3 := Aside0.mk hl801_3
               clear hi801_3 hl801_3
               replace p801 := eq_true p801
               replace q801 := eq_true q801
               have q45 : (2 : Int) ≤ ((x1_1.length : Int) : Int) := of_decide_eq_true (by first | (with_reducible assumption) | assumption)
               obtain ⟨i045, hi045, _, hsz45, _⟩ := info_parts info3
               have hroom45 : x1_1.length ≤ co39 := (Kd.V_reads' HO_1.out).2.1
               have hC45 : Kd.F (Kd.int .i64) _ _ (some ad797) x1_1.length x1_1 := (Kd.V_at (base := w.heap.size) HO_1.out).2.2
               have hcut45 := cut_from (P := Tryd.prog) 26 3 .i64 Tryd.underlying26 hi045 1 hsz45 (some ad797) x1_1.length co39 2 (by omega) q45
               have hr45 := Kd.F_cut (m := (2 : Int).toNat) (c := co39) hC45 (by omega) hroom45
               obtain ⟨A45, hA45⟩ : ∃ A1, A1 = (if co39 = (2 : Int).toNat then (some ad797) else ((some ad797) : Option Addr).map (·.add ((2 : Int).toNat * 1))) := ⟨_, rfl⟩
               obtain ⟨c45, hc45⟩ : ∃ c1, c1 = co39 - (2 : Int).toNat := ⟨_, rfl⟩
               have hy45 : y802.length = x1_1.length - (2 : Int).toNat := (by rw [Ny802.out, List.length_drop] <;> omega)
               rw [show (x1_1).drop (2 : Int).toNat = y802 from Ny802.out.symm] at hr45
               replace hr45 : Kd.F (Kd.int .i64) _ _ A45 y802.length y802 := (by rw [hA45]; exact hr45)
               rw [← hy45, ← hA45, ← hc45] at hcut45
               have HO806 := Aside0.mk (show Kd.V (Kd.int .i64) 3 _ w.heap.size _ (.slice A45 y802.length c45) y802 from Kd.V_mk (by rw [hy45, hc45]; exact Nat.sub_le_sub_right hroom45 _) hr45)
               have HC806 := Aside0.mk (show y802.length ≤ c45 from by rw [hy45, hc45]; exact Nat.sub_le_sub_right hroom45 _)
               clear hr45 hC45 hroom45 hi045 hsz45 hc45
               have KY45 := Aside0.mk hy45
               have KA45 := Aside0.mk hA45
               clear hy45 hA45
               replace q45 := eq_true q45
               refine start_ (n := 13) (S := fun w' => w'.cell? ⟨gb795, 0, none⟩ = some (.int .i64 x796000_1) ∧ w'.cell? ⟨gb795, 1, none⟩ = some (.string x796001_1) ∧ w'.cell? ⟨gb795, 2, none⟩ = some (.int .i64 x796002_1) ∧ w'.cell? ⟨gb795, 3, none⟩ = some (.slice (some ad799) x796003_1.length co43) ∧ w'.cell? (ad799.add (((rd x1_1 0)).toNat * 4)) = some (.int .i64 ((rd_T36 x796003_1 (rd x1_1 0)).f0)) ∧ w'.cell? ⟨(ad799.add (((rd x1_1 0)).toNat * 4)).block, (ad799.add (((rd x1_1 0)).toNat * 4)).off + 1, none⟩ = some (.string ((rd_T36 x796003_1 (rd x1_1 0)).f1)) ∧ w'.cell? ⟨(ad799.add (((rd x1_1 0)).toNat * 4)).block, (ad799.add (((rd x1_1 0)).toNat * 4)).off + 2, none⟩ = some (.int .i64 ((rd_T36 x796003_1 (rd x1_1 0)).f2)) ∧ w'.cell? ⟨(ad799.add (((rd x1_1 0)).toNat * 4)).block, (ad799.add (((rd x1_1 0)).toNat * 4)).off + 3, none⟩ = some (.slice (some ad801) ((rd_T36 x796003_1 (rd x1_1 0)).f3).length c800_3) ∧ w'.cell? (ad801.add (((rd x1_1 1)).toNat * 4)) = some (.int .i64 ((rd_T36 ((rd_T36 x796003_1 (rd x1_1 0)).f3) (rd x1_1 1)).f0)) ∧ w'.cell? ⟨(ad801.add (((rd x1_1 1)).toNat * 4)).block, (ad801.add (((rd x1_1 1)).toNat * 4)).off + 1, none⟩ = some (.string ((rd_T36 ((rd_T36 x796003_1 (rd x1_1 0)).f3) (rd x1_1 1)).f1)) ∧ w'.cell? ⟨(ad801.add (((rd x1_1 1)).toNat * 4)).block, (ad801.add (((rd x1_1 1)).toNat * 4)).off + 2, none⟩ = some (.int .i64 ((rd_T36 ((rd_T36 x796003_1 (rd x1_1 0)).f3) (rd x1_1 1)).f2)) ∧ w'.cell? ⟨(ad801.add (((rd x1_1 1)).toNat * 4)).block, (ad801.add (((rd x1_1 1)).toNat * 4)).off + 3, none⟩ = some (.slice A801_3 ((rd_T36 ((rd_T36 x796003_1 (rd x1_1 0)).f3) (rd x1_1 1)).f3).length c801_3)) (ds := [11]) #[false, false, false, false, false, false, false, false, false, false, false, false, false] (by kernel_rfl) rfl rfl ⟨(blk_cell BK795.out 0).trans rfl, (blk_cell BK795.out 1).trans rfl, (blk_cell BK795.out 2).trans rfl, (blk_cell BK795.out 3).trans rfl, hx800_0, hx800_1, hx800_2, hx800_3, hx801_0, hx801_1, hx801_2, hx801_3⟩ (fun hHeld => ?_); refine with_tabW node_row.tab5 node_row.bits5 (fun HT_ HW_ => ?_)
               generalize w40.drew = w44 at HO_1 HO_796003 HL799_3 BK795 BK796 HR799_3 HB HL800_3 HL801_3 HO806 HR800_3 HR801_3 hx800_0 hx800_1 hx800_2 hx800_3 hx801_0 hx801_1 hx801_2 hx801_3 hHeld ⊢
               refine pure_ (i := 0) (N := some 42) (v := ?_) (a' := ?_) #[true, false, false, false, false, false, false, false, false, false, false, false, false] rfl rfl (any_of HT_.out (by kernel_rfl)) (fun _ _ _ h => h) (Or.inl ⟨by rfl, ?_⟩) ?_ ?_
               rotate_left
               ·
                intro w'
                go_simp
                first | with_reducible rfl | (rw [own_len_N ?hl_ ?hu_]; (case hl_ => assumption); (case hu_ => kernel_rfl); (try with_reducible rfl)) | (rw [own_len_R ?hl_ ?hu_]; (case hl_ => assumption); (case hu_ => kernel_rfl); (try with_reducible rfl))
               rotate_left
               ·
                simp only [Act.put, List.setIfInBounds_toArray, List.set_cons_zero, List.set_cons_succ, i64_w, i32_w]
                rfl
               refine pure_ (i := 2) (N := some 44) (v := ?_) (a' := ?_) #[true, false, true, false, false, false, false, false, false, false, false, false, false] rfl rfl (any_of HT_.out (by kernel_rfl)) (fun _ _ _ h => h) (Or.inl ⟨by rfl, ?_⟩) ?_ ?_
               rotate_left
               ·
                intro w'
                go_simp
                first | with_reducible rfl | (rw [own_len_N ?hl_ ?hu_]; (case hl_ => assumption); (case hu_ => kernel_rfl); (try with_reducible rfl)) | (rw [own_len_R ?hl_ ?hu_]; (case hl_ => assumption); (case hu_ => kernel_rfl); (try with_reducible rfl))
               rotate_left
               ·
                simp only [Act.put, List.setIfInBounds_toArray, List.set_cons_zero, List.set_cons_succ, i64_w, i32_w]
                rfl
               refine pure_ (i := 6) (N := some 48) (v := ?_) (a' := ?_) #[true, false, true, false, false, false, true, false, false, false, false, false, false] rfl rfl (any_of HT_.out (by kernel_rfl)) (fun _ _ _ h => h) (Or.inl ⟨by rfl, ?_⟩) ?_ ?_
               rotate_left
               ·
                intro w'
                go_simp
                first | with_reducible rfl | (rw [own_len_N ?hl_ ?hu_]; (case hl_ => assumption); (case hu_ => kernel_rfl); (try with_reducible rfl)) | (rw [own_len_R ?hl_ ?hu_]; (case hl_ => assumption); (case hu_ => kernel_rfl); (try with_reducible rfl))
               rotate_left
               ·
                simp only [Act.put, List.setIfInBounds_toArray, List.set_cons_zero, List.set_cons_succ, i64_w, i32_w]
                rfl
               refine pure_ (i := 9) (N := some 51) (v := ?_) (a' := ?_) #[true, false, true, false, false, false, true, false, false, true, false, false, false] rfl rfl (any_of HT_.out (by kernel_rfl)) (fun _ _ _ h => h) (Or.inl ⟨by rfl, ?_⟩) ?_ ?_
               rotate_left
               ·
                intro w'
                go_simp
                first | with_reducible rfl | (rw [own_len_N ?hl_ ?hu_]; (case hl_ => assumption); (case hu_ => kernel_rfl); (try with_reducible rfl)) | (rw [own_len_R ?hl_ ?hu_]; (case hl_ => assumption); (case hu_ => kernel_rfl); (try with_reducible rfl))
               rotate_left
               ·
                simp only [Act.put, List.setIfInBounds_toArray, List.set_cons_zero, List.set_cons_succ, i64_w, i32_w]
                rfl
               refine pure_ (i := 10) (N := some 52) (v := ?_) (a' := ?_) #[true, false, true, false, false, false, true, false, false, true, true, false, false] rfl rfl (any_of HT_.out (by kernel_rfl)) (fun _ _ _ h => h) (Or.inl ⟨by rfl, ?_⟩) ?_ ?_
               rotate_left
               ·
                intro w'
                go_simp
                first | with_reducible rfl | (rw [own_len_N ?hl_ ?hu_]; (case hl_ => assumption); (case hu_ => kernel_rfl); (try with_reducible rfl)) | (rw [own_len_R ?hl_ ?hu_]; (case hl_ => assumption); (case hu_ => kernel_rfl); (try with_reducible rfl))
               rotate_left
               ·
                simp only [Act.put, List.setIfInBounds_toArray, List.set_cons_zero, List.set_cons_succ, i64_w, i32_w]
                rfl
               refine take_ (i := 1) (N := some 43) (v := ?_) (a' := ?_) #[true, true, true, false, false, false, true, false, false, true, true, false, false] rfl rfl (take_ofW HT_.out HW_.out (by kernel_rfl)) (fun _ _ _ h => h) (Or.inl ⟨by rfl, ?_⟩) hHeld ?_ ?_
               rotate_left
               ·
                rintro w' ⟨s0, s1, s2, s3, s4, s5, s6, s7, s8, s9, s10, s11⟩
                go_simp
                with_reducible rfl
               rotate_left
               ·
                simp only [Act.put, List.setIfInBounds_toArray, List.set_cons_zero, List.set_cons_succ, i64_w, i32_w]
                rfl
               refine pure_ (i := 3) (N := some 45) (v := ?_) (a' := ?_) #[true, true, true, true, false, false, true, false, false, true, true, false, false] rfl rfl (any_of HT_.out (by kernel_rfl)) (fun _ _ _ h => h) (Or.inl ⟨by rfl, ?_⟩) ?_ ?_
               rotate_left
               ·
                intro w'
                go_simp
                first | with_reducible rfl | (rw [own_len_N ?hl_ ?hu_]; (case hl_ => assumption); (case hu_ => kernel_rfl); (try with_reducible rfl)) | (rw [own_len_R ?hl_ ?hu_]; (case hl_ => assumption); (case hu_ => kernel_rfl); (try with_reducible rfl))
               rotate_left
               ·
                simp only [Act.put, List.setIfInBounds_toArray, List.set_cons_zero, List.set_cons_succ, i64_w, i32_w]
                rfl
               refine pure_ (i := 4) (N := some 46) (v := ?_) (a' := ?_) #[true, true, true, true, true, false, true, false, false, true, true, false, false] rfl rfl (any_of HT_.out (by kernel_rfl)) (fun _ _ _ h => h) (Or.inl ⟨by rfl, ?_⟩) ?_ ?_
               rotate_left
               ·
                intro w'
                go_simp
                first | with_reducible rfl | (rw [own_len_N ?hl_ ?hu_]; (case hl_ => assumption); (case hu_ => kernel_rfl); (try with_reducible rfl)) | (rw [own_len_R ?hl_ ?hu_]; (case hl_ => assumption); (case hu_ => kernel_rfl); (try with_reducible rfl))
               rotate_left
               ·
                simp only [Act.put, List.setIfInBounds_toArray, List.set_cons_zero, List.set_cons_succ, i64_w, i32_w]
                rfl
               refine take_ (i := 5) (N := some 47) (v := ?_) (a' := ?_) #[true, true, true, true, true, true, true, false, false, true, true, false, false] rfl rfl (take_ofW HT_.out HW_.out (by kernel_rfl)) (fun _ _ _ h => h) (Or.inl ⟨by rfl, ?_⟩) hHeld ?_ ?_
               rotate_left
               ·
                rintro w' ⟨s0, s1, s2, s3, s4, s5, s6, s7, s8, s9, s10, s11⟩
                go_simp
                with_reducible rfl
               rotate_left
               ·
                simp only [Act.put, List.setIfInBounds_toArray, List.set_cons_zero, List.set_cons_succ, i64_w, i32_w]
                rfl
               refine pure_ (i := 7) (N := some 49) (v := ?_) (a' := ?_) #[true, true, true, true, true, true, true, true, false, true, true, false, false] rfl rfl (any_of HT_.out (by kernel_rfl)) (fun _ _ _ h => h) (Or.inl ⟨by rfl, ?_⟩) ?_ ?_
               rotate_left
               ·
                intro w'
                go_simp
                first | with_reducible rfl | (rw [own_len_N ?hl_ ?hu_]; (case hl_ => assumption); (case hu_ => kernel_rfl); (try with_reducible rfl)) | (rw [own_len_R ?hl_ ?hu_]; (case hl_ => assumption); (case hu_ => kernel_rfl); (try with_reducible rfl))
               rotate_left
               ·
                simp only [Act.put, List.setIfInBounds_toArray, List.set_cons_zero, List.set_cons_succ, i64_w, i32_w]
                rfl
               refine take_ (i := 8) (N := some 50) (v := ?_) (a' := ?_) #[true, true, true, true, true, true, true, true, true, true, true, false, false] rfl rfl (take_ofW HT_.out HW_.out (by kernel_rfl)) (fun _ _ _ h => h) (Or.inl ⟨by rfl, ?_⟩) hHeld ?_ ?_
               rotate_left
               ·
                rintro w' ⟨s0, s1, s2, s3, s4, s5, s6, s7, s8, s9, s10, s11⟩
                go_simp
                with_reducible rfl
               rotate_left
               ·
                simp only [Act.put, List.setIfInBounds_toArray, List.set_cons_zero, List.set_cons_succ, i64_w, i32_w]
                rfl
               refine last_ (i := 11) (N := none) #[true, true, true, true, true, true, true, true, true, true, true, true, false] rfl rfl (one_of HT_.out (by kernel_rfl)) (by decide) (fun K hK => ?_)
               have hs46 : w44.cell? ⟨gb795, 0, none⟩ = some (.int .i64 x796000_1) := (blk_cell BK795.out 0).trans rfl
               have hfs46 := blk_frozen BK795.out 0
               have hns46_1 := NB796_795.out
               have hms46_1 := NB795_796.out
               have hs47 : w44.cell? ⟨gb795, 1, none⟩ = some (.string x796001_1) := (blk_cell BK795.out 1).trans rfl
               have hfs47 := blk_frozen BK795.out 1
               have hns47_1 := NB796_795.out
               have hms47_1 := NB795_796.out
               have hs48 : w44.cell? ⟨gb795, 2, none⟩ = some (.int .i64 x796002_1) := (blk_cell BK795.out 2).trans rfl
               have hfs48 := blk_frozen BK795.out 2
               have hns48_1 := NB796_795.out
               have hms48_1 := NB795_796.out
               have hs49 : w44.cell? ⟨gb795, 3, none⟩ = some (.slice (some ad799) x796003_1.length co43) := (blk_cell BK795.out 3).trans rfl
               have hfs49 := blk_frozen BK795.out 3
               have hns49_1 := NB796_795.out
               have hms49_1 := NB795_796.out
               refine skip_ (w1 := ?_) (by rfl) rfl ?_ ?_
               rotate_left
               ·
                go_simp
                rfl
               refine hK.out _ _ ?_
               clear hK K
               refine pure_ (i := 12) (N := some 1) (v := ?_) (a' := ?_) #[true, true, true, true, true, true, true, true, true, true, true, true, true] rfl rfl (any_of HT_.out (by kernel_rfl)) (fun _ _ _ h => h) (Or.inl ⟨by rfl, ?_⟩) ?_ ?_
               rotate_left
               ·
                intro w'
                go_simp
                first | with_reducible rfl | (rw [own_len_N ?hl_ ?hu_]; (case hl_ => assumption); (case hu_ => kernel_rfl); (try with_reducible rfl)) | (rw [own_len_R ?hl_ ?hu_]; (case hl_ => assumption); (case hu_ => kernel_rfl); (try with_reducible rfl))
               rotate_left
               ·
                simp only [Act.put, List.setIfInBounds_toArray, List.set_cons_zero, List.set_cons_succ, i64_w, i32_w]
                rfl
               refine done_ (done_of HT_.out (by kernel_rfl)) ?_
               try go_wp2
               go_roundg k1
               case measure => have := HK1.out; omega
               case rel => exact ⟨(y802), ((rd_T36 ((rd_T36 x796003_1 (rd x1_1 0)).f3) (rd x1_1 1)).f0), ((rd_T36 ((rd_T36 x796003_1 (rd x1_1 0)).f3) (rd x1_1 1)).f1), ((rd_T36 ((rd_T36 x796003_1 (rd x1_1 0)).f3) (rd x1_1 1)).f2), ((rd_T36 ((rd_T36 x796003_1 (rd x1_1 0)).f3) (rd x1_1 1)).f3), (x797000_1), (x797001_1), (x797002_1), (.slice A801_3 ((rd_T36 ((rd_T36 x796003_1 (rd x1_1 0)).f3) (rd x1_1 1)).f3).length c801_3), H', ⟨by have := HK1.out; omega⟩, ⟨by (with_reducible repeat (first | apply Kd.V_alloc | apply Kd.V_drewN | apply Kd.V_drew)); exact Kd.V_mono (Kd.V_far (p := ⟨gb795, 3, none⟩) (Kd.V_far (p := ⟨gb795, 2, none⟩) (Kd.V_far (p := ⟨gb795, 1, none⟩) (Kd.V_far (p := ⟨gb795, 0, none⟩) (Kd.V_mono HO806.out (fun k_ hk => (⟨hk, hk.2.1⟩ : _ ∧ k_ ≠ gb795))) (fun _ hk => hk.2) (.int .i64 ((rd_T36 ((rd_T36 x796003_1 (rd x1_1 0)).f3) (rd x1_1 1)).f0))) (fun _ hk => hk.2) (.string ((rd_T36 ((rd_T36 x796003_1 (rd x1_1 0)).f3) (rd x1_1 1)).f1))) (fun _ hk => hk.2) (.int .i64 ((rd_T36 ((rd_T36 x796003_1 (rd x1_1 0)).f3) (rd x1_1 1)).f2))) (fun _ hk => hk.2) (.slice A801_3 ((rd_T36 ((rd_T36 x796003_1 (rd x1_1 0)).f3) (rd x1_1 1)).f3).length c801_3)) (fun _ hk => ⟨hk.1.1, ⟨hk.1.2.1, hk.1.2.2⟩⟩)⟩, ⟨by (with_reducible repeat (first | apply Kd.V_alloc | apply Kd.V_drewN | apply Kd.V_drew)); exact Kd.V_mono (Kd.V_far (p := ⟨gb795, 3, none⟩) (Kd.V_far (p := ⟨gb795, 2, none⟩) (Kd.V_far (p := ⟨gb795, 1, none⟩) (Kd.V_far (p := ⟨gb795, 0, none⟩) (Kd.V_mono HL801_3.out (fun k_ hk => (⟨hk, hk.2.1⟩ : _ ∧ k_ ≠ gb795))) (fun _ hk => hk.2) (.int .i64 ((rd_T36 ((rd_T36 x796003_1 (rd x1_1 0)).f3) (rd x1_1 1)).f0))) (fun _ hk => hk.2) (.string ((rd_T36 ((rd_T36 x796003_1 (rd x1_1 0)).f3) (rd x1_1 1)).f1))) (fun _ hk => hk.2) (.int .i64 ((rd_T36 ((rd_T36 x796003_1 (rd x1_1 0)).f3) (rd x1_1 1)).f2))) (fun _ hk => hk.2) (.slice A801_3 ((rd_T36 ((rd_T36 x796003_1 (rd x1_1 0)).f3) (rd x1_1 1)).f3).length c801_3)) (fun _ hk => ⟨hk.1.1, ⟨hk.1.2.1, hk.1.2.2⟩⟩)⟩, ⟨by (with_reducible repeat (first | refine blk_drewN ?_ _ | refine blk_drew ?_ | refine blk_alloc ?_ _)); refine blk_put (cs := #[.int .i64 ((rd_T36 ((rd_T36 x796003_1 (rd x1_1 0)).f3) (rd x1_1 1)).f0), .string ((rd_T36 ((rd_T36 x796003_1 (rd x1_1 0)).f3) (rd x1_1 1)).f1), .int .i64 ((rd_T36 ((rd_T36 x796003_1 (rd x1_1 0)).f3) (rd x1_1 1)).f2), .slice (some ad799) x796003_1.length co43]) ?_ 3 _ rfl; (with_reducible repeat (first | refine blk_drewN ?_ _ | refine blk_drew ?_ | refine blk_alloc ?_ _)); refine blk_put (cs := #[.int .i64 ((rd_T36 ((rd_T36 x796003_1 (rd x1_1 0)).f3) (rd x1_1 1)).f0), .string ((rd_T36 ((rd_T36 x796003_1 (rd x1_1 0)).f3) (rd x1_1 1)).f1), .int .i64 x796002_1, .slice (some ad799) x796003_1.length co43]) ?_ 2 _ rfl; (with_reducible repeat (first | refine blk_drewN ?_ _ | refine blk_drew ?_ | refine blk_alloc ?_ _)); refine blk_put (cs := #[.int .i64 ((rd_T36 ((rd_T36 x796003_1 (rd x1_1 0)).f3) (rd x1_1 1)).f0), .string x796001_1, .int .i64 x796002_1, .slice (some ad799) x796003_1.length co43]) ?_ 1 _ rfl; (with_reducible repeat (first | refine blk_drewN ?_ _ | refine blk_drew ?_ | refine blk_alloc ?_ _)); refine blk_put (cs := #[.int .i64 x796000_1, .string x796001_1, .int .i64 x796002_1, .slice (some ad799) x796003_1.length co43]) ?_ 0 _ rfl; (with_reducible repeat (first | refine blk_drewN ?_ _ | refine blk_drew ?_ | refine blk_alloc ?_ _)); exact BK795.out⟩, ⟨by (with_reducible repeat (first | refine blk_drewN ?_ _ | refine blk_drew ?_ | refine blk_alloc ?_ _)); refine blk_far ?_ NB796_795.out _; (with_reducible repeat (first | refine blk_drewN ?_ _ | refine blk_drew ?_ | refine blk_alloc ?_ _)); refine blk_far ?_ NB796_795.out _; (with_reducible repeat (first | refine blk_drewN ?_ _ | refine blk_drew ?_ | refine blk_alloc ?_ _)); refine blk_far ?_ NB796_795.out _; (with_reducible repeat (first | refine blk_drewN ?_ _ | refine blk_drew ?_ | refine blk_alloc ?_ _)); refine blk_far ?_ NB796_795.out _; (with_reducible repeat (first | refine blk_drewN ?_ _ | refine blk_drew ?_ | refine blk_alloc ?_ _)); exact BK796.out⟩, ⟨by repeat (first | (with_reducible first | exact HB.out | apply below_alloc | apply pw_below_drewN | apply below_drew1 | refine below_set ?_ GE795.out | refine below_set ?_ GE796.out) | exact HB.out)⟩⟩
              ·
               rw [if_neg c38] at H
               exact absurd H (by simp)
             ·
              rw [if_neg c37] at H
              exact absurd H (by simp)
            ·
             rw [if_neg c36] at H
             exact absurd H (by simp)
          ·
           rw [if_neg c28] at H
           exact absurd H (by simp)
         ·
          rw [if_neg c27] at H
          exact absurd H (by simp)
     ·
      rw [if_neg c7] at H
      exact absurd H (by simp)
    ·
     rw [if_neg c6] at H
     exact absurd H (by simp)
   ·
    rw [if_neg c5] at H
    have c5b0 : decide (2 ≤ (x1_1.length : Int)) = false := decide_eq_false c5
    have c5b1 : decide (2 ≤ x1_1.length) = false := decide_eq_false (by omega)
    clear c5
    simp only [Option.some.injEq, Prod.mk.injEq] at H
    obtain ⟨rfl, rfl, rfl, rfl, rfl⟩ := H
    obtain ⟨Ao50, co50, eo50⟩ := Kd.V_slice HO_1.out
    subst eo50
    have hnb51 := NB795_796.out
    have hnc51 := NB796_795.out
    have hcz52_0 : wr.cell? ⟨gb795, 0, none⟩ = some (.int .i64 x796000_1) := (blk_cell BK795.out 0).trans rfl
    have hcz52_1 : wr.cell? ⟨gb795, 1, none⟩ = some (.string x796001_1) := (blk_cell BK795.out 1).trans rfl
    have hcz52_2 : wr.cell? ⟨gb795, 2, none⟩ = some (.int .i64 x796002_1) := (blk_cell BK795.out 2).trans rfl
    have hcz52_3 : wr.cell? ⟨gb795, 3, none⟩ = some (u796003) := (blk_cell BK795.out 3).trans rfl
    have hfz52_0 := blk_frozen BK795.out 0
    have hfz52_1 := blk_frozen BK795.out 1
    have hfz52_2 := blk_frozen BK795.out 2
    have hfz52_3 := blk_frozen BK795.out 3
    have hcz53_0 : wr.cell? ⟨gb796, 0, none⟩ = some (.int .i64 x797000_1) := (blk_cell BK796.out 0).trans rfl
    have hcz53_1 : wr.cell? ⟨gb796, 1, none⟩ = some (.string x797001_1) := (blk_cell BK796.out 1).trans rfl
    have hcz53_2 : wr.cell? ⟨gb796, 2, none⟩ = some (.int .i64 x797002_1) := (blk_cell BK796.out 2).trans rfl
    have hcz53_3 : wr.cell? ⟨gb796, 3, none⟩ = some (.slice none 0 0) := (blk_cell BK796.out 3).trans rfl
    have hfz53_0 := blk_frozen BK796.out 0
    have hfz53_1 := blk_frozen BK796.out 1
    have hfz53_2 := blk_frozen BK796.out 2
    have hfz53_3 := blk_frozen BK796.out 3
    obtain ⟨Ao54, co54, eo54⟩ := Kd.V_slice HO_796003.out
    subst eo54
    go_wp2
    refine bodyPost_ret (results_ct rfl _ _ gb796 36 #[.int .i64 x796000_1, .string x796001_1, .int .i64 x796002_1, .slice Ao54 x796003_1.length co54] (0, 0) _ rfl (by (with_reducible repeat (first | refine blk_drewN ?_ _ | refine blk_drew ?_ | refine blk_alloc ?_ _)); refine blk_put (cs := #[.int .i64 x796000_1, .string x796001_1, .int .i64 x796002_1, .slice none 0 0]) ?_ 3 _ rfl; (with_reducible repeat (first | refine blk_drewN ?_ _ | refine blk_drew ?_ | refine blk_alloc ?_ _)); refine blk_put (cs := #[.int .i64 x796000_1, .string x796001_1, .int .i64 x797002_1, .slice none 0 0]) ?_ 2 _ rfl; (with_reducible repeat (first | refine blk_drewN ?_ _ | refine blk_drew ?_ | refine blk_alloc ?_ _)); refine blk_put (cs := #[.int .i64 x796000_1, .string x797001_1, .int .i64 x797002_1, .slice none 0 0]) ?_ 1 _ rfl; (with_reducible repeat (first | refine blk_drewN ?_ _ | refine blk_drew ?_ | refine blk_alloc ?_ _)); refine blk_put (cs := #[.int .i64 x797000_1, .string x797001_1, .int .i64 x797002_1, .slice none 0 0]) ?_ 0 _ rfl; (with_reducible repeat (first | refine blk_drewN ?_ _ | refine blk_drew ?_ | refine blk_alloc ?_ _)); exact BK796.out) Tryd.underlying36 rfl (by kernel_rfl)) rfl ?_
    exact ⟨_, by first | rfl | (simp [errW_none, errW_some] <;> rfl) | (simp [*, errW_none, errW_some] <;> rfl), by (with_reducible repeat (first | apply Kd.V_alloc | apply Kd.V_drewN | apply Kd.V_drew)); exact Kd.V_mono (Kd.V_far (p := ⟨gb796, 3, none⟩) (Kd.V_far (p := ⟨gb796, 2, none⟩) (Kd.V_far (p := ⟨gb796, 1, none⟩) (Kd.V_far (p := ⟨gb796, 0, none⟩) (Kd.V_mono HO_796003.out (fun k_ hk => (⟨hk, hk.2.2⟩ : _ ∧ k_ ≠ gb796))) (fun _ hk => hk.2) (.int .i64 x796000_1)) (fun _ hk => hk.2) (.string x796001_1)) (fun _ hk => hk.2) (.int .i64 x796002_1)) (fun _ hk => hk.2) (.slice Ao54 x796003_1.length co54)) (fun _ hk => hk.1.1), by repeat (first | (with_reducible first | exact HB.out | apply below_alloc | apply pw_below_drewN | apply below_drew1 | refine below_set ?_ GE795.out | refine below_set ?_ GE796.out) | exact HB.out)⟩
end Go.Proofs.YtagkhoeidjlahaaDoor.G
