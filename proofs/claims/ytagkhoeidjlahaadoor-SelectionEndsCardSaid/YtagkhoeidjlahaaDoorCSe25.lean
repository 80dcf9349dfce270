-- Written by pack2.py: this session's texts and the printer's, pruned.
import Derived.Test.YtagkhoeidjlahaaDoorCSe2
namespace Go.Proofs.YtagkhoeidjlahaaDoor.G
open Go.RowKit Go.Proofs.YtagkhoeidjlahaaDoorW.PrintWords Go.Proofs.YtagkhoeidjlahaaDoorW.PrintLast Go.Proofs.YtagkhoeidjlahaaDoorW.PrintMore
attribute [local go_sem] max2_int min2_int max_two min_two max_three min_three max_four min_four
set_option linter.unusedVariables false
set_option linter.unusedSimpArgs false
mutual
def vinculumref10_all.l0 : Nat → List Int → List (List Int) → Int → Int → ByteArray → Int → List (S36) → Option ((List (List Int)))
 | 0, _, _, _, _, _, _, _ => none
 | k + 1, x1, x5, x6, x435000, x435001, x435002, x435003 => if x6 ≤ (x435003.length : Int) then ((some (([] : List Int) : List Int)).bind fun y435 => (if y435.length + x1.length < 17592186044416 then ((some (y435 ++ x1 : List Int)).bind fun y438 => (if y438.length < 17592186044416 then (if x5.length < 5864062014805 then ((some (x5 ++ [(y438 ++ [x6])] : List (List Int))).bind fun y444 => (if x6 = (x435003.length : Int) then (some y444) else (vinculumref10_all.l1 k x1 y444 x6 0 x435000 x435001 x435002 x435003))) else (none)) else (none))) else (none))) else (some x5)
def vinculumref10_all.l1 : Nat → List Int → List (List Int) → Int → Int → Int → ByteArray → Int → List (S36) → Option ((List (List Int)))
 | 0, _, _, _, _, _, _, _, _ => none
 | k + 1, x1, x5, x6, x7, x435000, x435001, x435002, x435003 => if 0 ≤ x6 then (if x6 < (x435003.length : Int) then (if x7 < (((rd_T36 x435003 x6).f3).length : Int) then (if 0 ≤ x7 then ((some (([] : List Int) : List Int)).bind fun y450 => (if y450.length + x1.length < 17592186044416 then ((some (y450 ++ x1 : List Int)).bind fun y453 => ((some (([x6, x7] : List Int) : List Int)).bind fun y456 => (if y453.length + y456.length < 17592186044416 then ((vinculumref10_all.f k ((rd_T36 ((rd_T36 x435003 x6).f3) x7).f0) ((rd_T36 ((rd_T36 x435003 x6).f3) x7).f1) ((rd_T36 ((rd_T36 x435003 x6).f3) x7).f2) ((rd_T36 ((rd_T36 x435003 x6).f3) x7).f3) (y453 ++ y456)).bind fun t462 => (if x5.length + t462.length < 5864062014805 then (vinculumref10_all.l1 k x1 (x5 ++ t462) x6 (wrap64 (x7 + 1)) x435000 x435001 x435002 x435003) else (none))) else (none)))) else (none))) else (none)) else (vinculumref10_all.l0 k x1 x5 (wrap64 (x6 + 1)) x435000 x435001 x435002 x435003)) else (none)) else (none)
def vinculumref10_all.f : Nat → Int → ByteArray → Int → List (S36) → List Int → Option ((List (List Int)))
 | 0, _, _, _, _, _ => none
 | k + 1, a0_0, a0_1, a0_2, l0_3, l1 => vinculumref10_all.l0 k l1 ([] : List (List Int)) 0 a0_0 a0_1 a0_2 l0_3
end
def vinculumref10_all.T10 : Bool × List (List Nat × List Nat) := (true, [([], []), ([], []), ([1], [1]), ([], []), ([2, 3], [2, 3]), ([4], [4]), ([5], [5]), ([], []), ([6, 7], [6, 7]), ([8], [8]), ([], []), ([], []), ([10, 11], [10, 11]), ([], []), ([], []), ([13, 14], [13, 14]), ([12, 15, 12], [12, 15]), ([9, 16, 16], [9, 16]), ([0, 17, 17], [0, 17]), ([18, 18, 0, 1, 2, 3, 4, 5, 6, 7, 8, 9, 10, 11, 12, 13, 14, 15, 16, 17, 18], [0, 18])])
def vinculumref10_all.B10 : List Nat := [0, 0, 2, 0, 14, 30, 62, 0, 254, 510, 0, 0, 3072, 0, 0, 24576, 64512, 131070, 262143, 524287]
theorem vinculumref10_all.tab10 : rtab .any (opsOf Tryd.f75 10) = vinculumref10_all.T10 := by kernel_rfl
theorem vinculumref10_all.bits10 : waitsOk vinculumref10_all.T10.2 vinculumref10_all.B10 = true := by kernel_rfl
set_option maxHeartbeats 8000000 in
set_option maxRecDepth 100000 in
theorem vinculumref10_all.calls (k : Nat) : ∀ (a0_0 : Int) (a0_1 : ByteArray) (a0_2 : Int) (A0_3 : Option Addr) (c0_3 : Nat) (l0_3 : List (S36)) (A1 : Option Addr) (c1 : Nat) (l1 : List Int) (r : List (List Int)) (w : World) (hr0_3 : Kd.C k36 w A0_3 l0_3.length l0_3) (hc0_3 : l0_3.length ≤ c0_3) (hr1 : Kd.C (Kd.int .i64) w A1 l1.length l1) (hc1 : l1.length ≤ c1) (h : vinculumref10_all.f k a0_0 a0_1 a0_2 l0_3 l1 = some r),
  Calls Tryd.prog 75 #[.agg #[.int .i64 a0_0, .string a0_1, .int .i64 a0_2, .slice A0_3 l0_3.length c0_3], .slice A1 l1.length c1] w fun e w' => ∃ v0_ : Value, e = .returned (v0_) ∧ Kd.N (Kd.slice 3 (Kd.int .i64)) 26 w' w.heap.size (fun k_ => (w.heap.size ≤ k_)) v0_ r ∧ Below w.heap.size w w' := by
 induction k using Nat.strongRecOn with
 | _ k ih =>
 intro a0_0 a0_1 a0_2 A0_3 c0_3 l0_3 A1 c1 l1 r w hr0_3 hc0_3 hr1 hc1 h
 cases k with
 | zero => exact absurd h (by simp [vinculumref10_all.f])
 | succ k =>
 simp only [vinculumref10_all.f] at h
 have hu36 := Tryd.underlying36
 have HR0_3 := Aside0.mk hr0_3
 have HC0_3 := Aside0.mk hc0_3
 clear hr0_3 hc0_3
 have HR1 := Aside0.mk hr1
 have HC1 := Aside0.mk hc1
 clear hr1 hc1
 have HB := Aside0.mk (Below.refl w.heap.size w)
 have H : (vinculumref10_all.l0 k l1 ([] : List (List Int)) 0 a0_0 a0_1 a0_2 l0_3) = some r := h
 clear h
 have H' := Aside0.mk H
 clear H
 go_enter Tryd.func75, Tryd.ntmps75
 go_wp2_with (first | ((with_reducible refine gate_dst (N := 2) rfl ?_); refine box_event ?hg (N := 2) ?hd (cs := #[.int .i64 a0_0, .string a0_1, .int .i64 a0_2, .slice A0_3 l0_3.length c0_3]) (t := 36) ?hr ?_; (case hd => rfl); (case hg => rfl); (case hr => first | (go_simp; done) | (go_simp; rfl)); intro gb434 hg w3 hbox hb; have n0_ := Aside0.mk (below_step (by repeat (first | (with_reducible first | exact HB.out | apply below_alloc | apply pw_below_drewN | apply below_drew1) | exact HB.out)) hb); have n1_ := Aside0.mk (hbox); have n2_ := Aside0.mk ((by rw [hg]; exact (below_size (by repeat (first | (with_reducible first | exact HB.out | apply below_alloc | apply pw_below_drewN | apply below_drew1) | exact HB.out))) : w.heap.size ≤ gb434)); have n3_ := Aside0.mk ((by rw [hg]; exact (below_size (by repeat (first | (with_reducible first | exact HB.out | apply below_alloc | apply pw_below_drewN | apply below_drew1) | exact HB.out))) : w.heap.size ≤ gb434)); clear HB; have HB := n0_; have BK434 := n1_; have GW434 := n2_; have GE434 := n3_; clear n0_ n1_ n2_ n3_; clear hb hbox hg))
 go_loopg [5, 6] k (fun kq v5 v6 w' => ∃ (x5_1 : List (List Int)) (x6_1 : Int), v6 = .int .i64 x6_1 ∧ Aside0 (vinculumref10_all.l0 kq l1 x5_1 x6_1 a0_0 a0_1 a0_2 l0_3 = some r) ∧ Aside0 (kq ≤ k) ∧ Aside0 (Kd.N (Kd.slice 3 (Kd.int .i64)) 26 w' w.heap.size (fun k_ => (w.heap.size ≤ k_) ∧ k_ ≠ gb434) v5 x5_1) ∧ Aside0 (w'.heap[gb434]? = some (.cells #[.int .i64 a0_0, .string a0_1, .int .i64 a0_2, (.slice A0_3 l0_3.length c0_3)] 36 (0, 0))) ∧ Aside0 (Below w.heap.size w w'))
 case atStart => exact ⟨(([] : List (List Int))), (0), (by first | rfl | (simp; done) | (simp [*]; done)), H', ⟨Nat.le_refl _⟩, ⟨by first | exact Kd.S_nil _ _ _ _ _ | exact Kd.N_nil _ _ _ _ _ | exact Kd.V_nil _ _ _ _ _ | exact Kd.Q_nil _ _ _ _ _ | exact Kd.R_nil _ _ _ _ _⟩, ⟨by (with_reducible repeat (first | refine blk_drewN ?_ _ | refine blk_drew ?_ | refine blk_alloc ?_ _)); exact BK434.out⟩, ⟨by repeat (first | (with_reducible first | exact HB.out | apply below_alloc | apply pw_below_drewN | apply below_drew1 | refine below_set ?_ GE434.out) | exact HB.out)⟩⟩
 case round =>
  clear H'
  try clear c1
  try clear p2
  obtain ⟨x5_1, x6_1, rfl, HA, HK1, HO_5, BK434, HB⟩ := hrel
  cases gk with
  | zero => exact absurd HA.out (by simp [vinculumref10_all.l0])
  | succ k1 =>
   have H := HA.out
   clear HA
   simp only [vinculumref10_all.l0] at H
   by_cases c4 : x6_1 ≤ (l0_3.length : Int)
   ·
    rw [if_pos c4] at H
    have c4b0 : decide (x6_1 ≤ (l0_3.length : Int)) = true := decide_eq_true c4
    clear c4
    obtain ⟨y435, hy435⟩ : ∃ y_ : List Int, y_ = (([] : List Int)) := ⟨_, rfl⟩
    replace H : (if y435.length + l1.length < 17592186044416 then ((some (y435 ++ l1 : List Int)).bind fun y438 => (if y438.length < 17592186044416 then (if x5_1.length < 5864062014805 then ((some (x5_1 ++ [(y438 ++ [x6_1])] : List (List Int))).bind fun y444 => (if x6_1 = (l0_3.length : Int) then (some y444) else (vinculumref10_all.l1 k1 l1 y444 x6_1 0 a0_0 a0_1 a0_2 l0_3))) else (none)) else (none))) else (none)) = some r := by first | (rw [hy435]; with_reducible exact H) | (have H2_ := (Option.bind_some _ _).symm.trans H; rw [hy435]; with_reducible exact H2_) | (have H2_ := (Option.bind_some _ _).symm.trans H; with_reducible exact H2_) | with_reducible exact H | (rw [hy435]; exact H) | exact H
    have Ny435 := Aside0.mk hy435
    clear hy435
    by_cases c5 : y435.length + l1.length < 17592186044416
    ·
     rw [if_pos c5] at H
     have LMc5 := Aside0.mk c5
     clear c5
     obtain ⟨y438, hy438⟩ : ∃ y_ : List Int, y_ = (y435 ++ l1) := ⟨_, rfl⟩
     replace H : (if y438.length < 17592186044416 then (if x5_1.length < 5864062014805 then ((some (x5_1 ++ [(y438 ++ [x6_1])] : List (List Int))).bind fun y444 => (if x6_1 = (l0_3.length : Int) then (some y444) else (vinculumref10_all.l1 k1 l1 y444 x6_1 0 a0_0 a0_1 a0_2 l0_3))) else (none)) else (none)) = some r := by first | (rw [hy438]; with_reducible exact H) | (have H2_ := (Option.bind_some _ _).symm.trans H; rw [hy438]; with_reducible exact H2_) | (have H2_ := (Option.bind_some _ _).symm.trans H; with_reducible exact H2_) | with_reducible exact H | (rw [hy438]; exact H) | exact H
     have Ny438 := Aside0.mk hy438
     clear hy438
     by_cases c6 : y438.length < 17592186044416
     ·
      rw [if_pos c6] at H
      have LMc6 := Aside0.mk c6
      clear c6
      obtain ⟨y441, hy441⟩ : ∃ y_ : List Int, y_ = (y438 ++ [x6_1]) := ⟨_, rfl⟩
      replace H : (if x5_1.length < 5864062014805 then ((some (x5_1 ++ [y441] : List (List Int))).bind fun y444 => (if x6_1 = (l0_3.length : Int) then (some y444) else (vinculumref10_all.l1 k1 l1 y444 x6_1 0 a0_0 a0_1 a0_2 l0_3))) else (none)) = some r := by first | (rw [hy441]; with_reducible exact H) | (have H2_ := (Option.bind_some _ _).symm.trans H; rw [hy441]; with_reducible exact H2_) | (have H2_ := (Option.bind_some _ _).symm.trans H; with_reducible exact H2_) | with_reducible exact H | (rw [hy441]; exact H) | exact H
      have Ny441 := Aside0.mk hy441
      clear hy441
      by_cases c7 : x5_1.length < 5864062014805
      ·
       rw [if_pos c7] at H
       have LMc7 := Aside0.mk c7
       clear c7
       obtain ⟨y444, hy444⟩ : ∃ y_ : List (List Int), y_ = (x5_1 ++ [y441]) := ⟨_, rfl⟩
       replace H : (if x6_1 = (l0_3.length : Int) then (some y444) else (vinculumref10_all.l1 k1 l1 y444 x6_1 0 a0_0 a0_1 a0_2 l0_3)) = some r := by first | (rw [hy444]; with_reducible exact H) | (have H2_ := (Option.bind_some _ _).symm.trans H; rw [hy444]; with_reducible exact H2_) | (have H2_ := (Option.bind_some _ _).symm.trans H; with_reducible exact H2_) | with_reducible exact H | (rw [hy444]; exact H) | exact H
       have Ny444 := Aside0.mk hy444
       clear hy444
       by_cases c8 : x6_1 = (l0_3.length : Int)
       ·
        rw [if_pos c8] at H
        have c8b0 : (x6_1 == (l0_3.length : Int)) = true := beq_iff_eq.mpr c8
        have c8b1 : (x6_1 != (l0_3.length : Int)) = false := bne_eq_false_iff_eq.mpr c8
        clear c8
        obtain rfl := Option.some.inj H
        have hcz9_0 : wr.cell? ⟨gb434, 0, none⟩ = some (.int .i64 a0_0) := (blk_cell BK434.out 0).trans rfl
        have hcz9_1 : wr.cell? ⟨gb434, 1, none⟩ = some (.string a0_1) := (blk_cell BK434.out 1).trans rfl
        have hcz9_2 : wr.cell? ⟨gb434, 2, none⟩ = some (.int .i64 a0_2) := (blk_cell BK434.out 2).trans rfl
        have hcz9_3 : wr.cell? ⟨gb434, 3, none⟩ = some (.slice A0_3 l0_3.length c0_3) := (blk_cell BK434.out 3).trans rfl
        have hfz9_0 := blk_frozen BK434.out 0
        have hfz9_1 := blk_frozen BK434.out 1
        have hfz9_2 := blk_frozen BK434.out 2
        have hfz9_3 := blk_frozen BK434.out 3
        go_wp2_with (first | ((with_reducible refine gate_dst (N := 16) rfl ?_); refine Kd.R_lit (Kd.int .i64) _ 3 ?hg (N := 16) ?hd (xs := ([] : List Int)) (inner := []) (ok := fun _ => True) (okp := fun _ => True) ?hr ?hp (fun _ hk => hk) trivial (Below.refl _ _) (Nat.le_refl _) (by simp) ?_; (case hd => rfl); (case hg => rfl); (case hr => first | (go_simp; done) | (go_simp; rfl)); (case hp => exact (Reps.none _ _)); intro v436 w10 ho11 hb hg_ hnew_; clear hg_ hnew_; (first | rw [← Ny435.out] at ho11 | (simp only [Int.reduceToNat] at ho11; rw [← Ny435.out] at ho11)); have n0_ := Aside0.mk (Kd.N_elder' (by (with_reducible repeat (first | apply Kd.N_alloc | apply Kd.N_drewN | apply Kd.N_drew)); exact HO_5.out) (Kd.R_base ho11) hb); have n1_ := Aside0.mk (Kd.R_lower (Kd.R_newM (M := fun k_ => (w.heap.size ≤ k_)) ho11 (below_size (by repeat (first | (with_reducible first | exact HB.out | apply below_alloc | apply pw_below_drewN | apply below_drew1 | refine below_set ?_ GE434.out) | exact HB.out))) (fun k_ h_ => h_)) (below_size (by repeat (first | (with_reducible first | exact HB.out | apply below_alloc | apply pw_below_drewN | apply below_drew1 | refine below_set ?_ GE434.out) | exact HB.out)))); have n2_ := Aside0.mk (blk_below (g := gb434) (o := .cells #[.int .i64 a0_0, .string a0_1, .int .i64 a0_2, .slice A0_3 l0_3.length c0_3] 36 (0, 0)) (by (with_reducible repeat (first | refine blk_drewN ?_ _ | refine blk_drew ?_ | refine blk_alloc ?_ _)); exact BK434.out) hb); have n3_ := Aside0.mk (below_step (by repeat (first | (with_reducible first | exact HB.out | apply below_alloc | apply pw_below_drewN | apply below_drew1 | refine below_set ?_ GE434.out) | exact HB.out)) hb); clear HO_5; clear BK434; clear HB; have HO_5 := n0_; have HO437 := n1_; have BK434 := n2_; have HB := n3_; clear n0_ n1_ n2_ n3_; clear hb ho11) | ((with_reducible refine gate_builtin (b := .append) (xs := #[.tmp 16, .tmp 17]) rfl ?_); at_builtin; refine Kd.R_append_rows (Kd.int .i64) (w0 := w) w.heap.size rfl (.tmp 16) (.tmp 17) 26 3 (.int .i64 0) 8 rfl Tryd.underlying26 info3 rfl (by decide) (by omega) v436 y435 l1 _ _ _ (fun k_ => (w.heap.size ≤ k_)) (fun _ => False) rfl rfl ?aO ?aR (fun _ _ h => h) (fun _ h => h.elim) ?aF ?aB ?aS ?aL ?_; (case aR => repeat (first | exact (Kd.C_below HR1.out HB.out) | (with_reducible refine Kd.C_alloc ?_ _) | (with_reducible refine Kd.C_drewN ?_ _) | (with_reducible refine Kd.C_drew ?_))); (case aB => exact (by repeat (first | (with_reducible first | exact HB.out | apply below_alloc | apply pw_below_drewN | apply below_drew1 | refine below_set ?_ GE434.out) | exact HB.out))); (case aF => exact (fun k_ hk => (Nat.le_trans (below_size (by repeat (first | (with_reducible first | exact HB.out | apply below_alloc | apply pw_below_drewN | apply below_drew1 | refine below_set ?_ GE434.out) | exact HB.out))) hk))); (case aO => exact (by (with_reducible repeat (first | apply Kd.R_alloc | apply Kd.R_drewN | apply Kd.R_drew)); exact Kd.R_mono HO437.out (fun _ hk => hk.1))); (case aS => exact (below_size (by repeat (first | (with_reducible first | exact HB.out | apply below_alloc | apply pw_below_drewN | apply below_drew1 | refine below_set ?_ GE434.out) | exact HB.out)))); (case aL => have := LMc5.out; omega); intro v439 w12 ho hb hg hat; rw [← Ny438.out] at ho; have n0_ := Aside0.mk (Kd.N_afterv (ok := (fun k_ => (w.heap.size ≤ k_) ∧ k_ ≠ gb434)) (by (with_reducible repeat (first | apply Kd.N_alloc | apply Kd.N_drewN | apply Kd.N_drew)); exact HO_5.out) hg hat); have n1_ := Aside0.mk (blk_grown (g := gb434) (o := .cells #[.int .i64 a0_0, .string a0_1, .int .i64 a0_2, .slice A0_3 l0_3.length c0_3] 36 (0, 0)) (by (with_reducible repeat (first | refine blk_drewN ?_ _ | refine blk_drew ?_ | refine blk_alloc ?_ _)); exact BK434.out) hg (Kd.R_ne HO437.out BK434.out (by decide))); have n2_ := Aside0.mk (hb); have n3_ := Aside0.mk (ho); clear HO_5; clear BK434; clear HB; clear HO437; have HO_5 := n0_; have BK434 := n1_; have HB := n2_; have HO440 := n3_; clear n0_ n1_ n2_ n3_; clear ho hb hg hat) | ((with_reducible refine gate_builtin (b := .append) (xs := #[.tmp 18, .tmp 20]) rfl ?_); at_builtin; refine Kd.R_append (Kd.int .i64) (w0 := w) w.heap.size rfl (.tmp 18) (.tmp 20) 26 3 (.int .i64 0) 8 rfl Tryd.underlying26 info3 rfl (by decide) (by omega) v439 y438 x6_1 [.int .i64 x6_1] (fun k_ => (w.heap.size ≤ k_)) (fun _ => False) rfl rfl ?aP (fun _ hk => hk.elim) ?aF ?aO ?aB ?aS ?aL ?_; (case aP => exact rfl); (case aB => exact (by repeat (first | (with_reducible first | exact HB.out | apply below_alloc | apply pw_below_drewN | apply below_drew1 | refine below_set ?_ GE434.out) | exact HB.out))); (case aF => exact (fun k_ hk => (Nat.le_trans (below_size (by repeat (first | (with_reducible first | exact HB.out | apply below_alloc | apply pw_below_drewN | apply below_drew1 | refine below_set ?_ GE434.out) | exact HB.out))) hk))); (case aO => exact (by (with_reducible repeat (first | apply Kd.R_alloc | apply Kd.R_drewN | apply Kd.R_drew)); exact HO440.out)); (case aS => exact (below_size (by repeat (first | (with_reducible first | exact HB.out | apply below_alloc | apply pw_below_drewN | apply below_drew1 | refine below_set ?_ GE434.out) | exact HB.out)))); (case aL => have := LMc6.out; omega); intro v442 w13 ho hb hg hat; rw [← Ny441.out] at ho; have n0_ := Aside0.mk (Kd.N_afterv (ok := (fun k_ => (w.heap.size ≤ k_) ∧ k_ ≠ gb434)) (by (with_reducible repeat (first | apply Kd.N_alloc | apply Kd.N_drewN | apply Kd.N_drew)); exact HO_5.out) hg hat); have n1_ := Aside0.mk (blk_grown (g := gb434) (o := .cells #[.int .i64 a0_0, .string a0_1, .int .i64 a0_2, .slice A0_3 l0_3.length c0_3] 36 (0, 0)) (by (with_reducible repeat (first | refine blk_drewN ?_ _ | refine blk_drew ?_ | refine blk_alloc ?_ _)); exact BK434.out) hg (Kd.R_ne HO440.out BK434.out (by decide))); have n2_ := Aside0.mk (hb); have n3_ := Aside0.mk (ho); clear HO_5; clear BK434; clear HB; clear HO440; have HO_5 := n0_; have BK434 := n1_; have HB := n2_; have HO443 := n3_; clear n0_ n1_ n2_ n3_; clear ho hb hg hat; obtain ⟨Ao15, co15, eo15⟩ := Kd.R_slice HO443.out; subst eo15) | ((with_reducible refine gate_builtin (b := .append) (xs := #[.tmp 15, .tmp 22]) rfl ?_); at_builtin; refine Kd.N_append (Kd.slice 3 (Kd.int .i64)) (w0 := w) w.heap.size rfl (.tmp 15) (.tmp 22) 46 26 (.slice none 0 0) 24 rfl Tryd.underlying46 info26 rfl (by decide) (by omega) u5 x5_1 y441 [.slice Ao15 y441.length co15] (fun k_ => (w.heap.size ≤ k_) ∧ k_ ≠ gb434) (fun k_ => ((fun k_ => (w.heap.size ≤ k_) ∧ k_ ≠ gb434)) k_ ∧ some k_ ≠ (u5 : Value).ownBlock) rfl rfl ?aP (fun _ hk => hk) ?aF ?aO ?aB ?aS ?aL ?_; (case aP => exact (Kd.FK_slice_mk (Kd.R_reads' (Kd.R_mono (ok' := (fun k_ => ((fun k_ => (w.heap.size ≤ k_) ∧ k_ ≠ gb434)) k_ ∧ some k_ ≠ (u5 : Value).ownBlock)) (Kd.R_types (Kd.R_apart' (HO443.out) (Kd.N_typed HO_5.out) (by decide)) BK434.out (by decide)) (fun k_ hk => ⟨⟨hk.1.1, hk.2⟩, hk.1.2⟩))).2.1 (Kd.R_F (Kd.R_mono (ok' := (fun k_ => ((fun k_ => (w.heap.size ≤ k_) ∧ k_ ≠ gb434)) k_ ∧ some k_ ≠ (u5 : Value).ownBlock)) (Kd.R_types (Kd.R_apart' (HO443.out) (Kd.N_typed HO_5.out) (by decide)) BK434.out (by decide)) (fun k_ hk => ⟨⟨hk.1.1, hk.2⟩, hk.1.2⟩))))); (case aB => exact (by repeat (first | (with_reducible first | exact HB.out | apply below_alloc | apply pw_below_drewN | apply below_drew1 | refine below_set ?_ GE434.out) | exact HB.out))); (case aF => exact (fun k_ hk => ⟨(Nat.le_trans (below_size (by repeat (first | (with_reducible first | exact HB.out | apply below_alloc | apply pw_below_drewN | apply below_drew1 | refine below_set ?_ GE434.out) | exact HB.out))) hk), Kd.freshB (g := gb434) (o := .cells #[.int .i64 a0_0, .string a0_1, .int .i64 a0_2, .slice A0_3 l0_3.length c0_3] 36 (0, 0)) (by (with_reducible repeat (first | refine blk_drewN ?_ _ | refine blk_drew ?_ | refine blk_alloc ?_ _)); exact BK434.out) k_ hk⟩)); (case aO => exact (by (with_reducible repeat (first | apply Kd.N_alloc | apply Kd.N_drewN | apply Kd.N_drew)); exact Kd.N_mono HO_5.out (fun _ hk => ⟨hk.1.1, hk.1.2⟩))); (case aS => exact (below_size (by repeat (first | (with_reducible first | exact HB.out | apply below_alloc | apply pw_below_drewN | apply below_drew1 | refine below_set ?_ GE434.out) | exact HB.out)))); (case aL => have := LMc7.out; omega); intro v445 w14 ho hb hg hat; rw [← Ny444.out] at ho; have n0_ := Aside0.mk (blk_grown (g := gb434) (o := .cells #[.int .i64 a0_0, .string a0_1, .int .i64 a0_2, .slice A0_3 l0_3.length c0_3] 36 (0, 0)) (by (with_reducible repeat (first | refine blk_drewN ?_ _ | refine blk_drew ?_ | refine blk_alloc ?_ _)); exact BK434.out) hg (Kd.N_ne HO_5.out BK434.out (by decide))); have n1_ := Aside0.mk (hb); have n2_ := Aside0.mk (ho); clear BK434; clear HB; clear HO_5; clear HO443; have BK434 := n0_; have HB := n1_; have HO446 := n2_; clear n0_ n1_ n2_; clear ho hb hg hat; have hcz16_0 : w14.cell? ⟨gb434, 0, none⟩ = some (.int .i64 a0_0) := (blk_cell BK434.out 0).trans rfl; have hcz16_1 : w14.cell? ⟨gb434, 1, none⟩ = some (.string a0_1) := (blk_cell BK434.out 1).trans rfl; have hcz16_2 : w14.cell? ⟨gb434, 2, none⟩ = some (.int .i64 a0_2) := (blk_cell BK434.out 2).trans rfl; have hcz16_3 : w14.cell? ⟨gb434, 3, none⟩ = some (.slice A0_3 l0_3.length c0_3) := (blk_cell BK434.out 3).trans rfl; have hfz16_0 := blk_frozen BK434.out 0; have hfz16_1 := blk_frozen BK434.out 1; have hfz16_2 := blk_frozen BK434.out 2; have hfz16_3 := blk_frozen BK434.out 3))
        go_ret
        exact ⟨_, by first | rfl | (simp [errW_none, errW_some] <;> rfl) | (simp [*, errW_none, errW_some] <;> rfl), by (with_reducible repeat (first | apply Kd.N_alloc | apply Kd.N_drewN | apply Kd.N_drew)); exact Kd.N_mono HO446.out (fun _ hk => hk.1), by repeat (first | (with_reducible first | exact HB.out | apply below_alloc | apply pw_below_drewN | apply below_drew1 | refine below_set ?_ GE434.out) | exact HB.out)⟩
       ·
        rw [if_neg c8] at H
        have c8b0 : (x6_1 == (l0_3.length : Int)) = false := beq_eq_false_iff_ne.mpr c8
        have c8b1 : (x6_1 != (l0_3.length : Int)) = true := bne_iff_ne.mpr c8
        have H' := Aside0.mk H
        clear H
        have hcz17_0 : wr.cell? ⟨gb434, 0, none⟩ = some (.int .i64 a0_0) := (blk_cell BK434.out 0).trans rfl
        have hcz17_1 : wr.cell? ⟨gb434, 1, none⟩ = some (.string a0_1) := (blk_cell BK434.out 1).trans rfl
        have hcz17_2 : wr.cell? ⟨gb434, 2, none⟩ = some (.int .i64 a0_2) := (blk_cell BK434.out 2).trans rfl
        have hcz17_3 : wr.cell? ⟨gb434, 3, none⟩ = some (.slice A0_3 l0_3.length c0_3) := (blk_cell BK434.out 3).trans rfl
        have hfz17_0 := blk_frozen BK434.out 0
        have hfz17_1 := blk_frozen BK434.out 1
        have hfz17_2 := blk_frozen BK434.out 2
        have hfz17_3 := blk_frozen BK434.out 3
        go_wp2_with (first | ((with_reducible refine gate_dst (N := 16) rfl ?_); refine Kd.R_lit (Kd.int .i64) _ 3 ?hg (N := 16) ?hd (xs := ([] : List Int)) (inner := []) (ok := fun _ => True) (okp := fun _ => True) ?hr ?hp (fun _ hk => hk) trivial (Below.refl _ _) (Nat.le_refl _) (by simp) ?_; (case hd => rfl); (case hg => rfl); (case hr => first | (go_simp; done) | (go_simp; rfl)); (case hp => exact (Reps.none _ _)); intro v436 w18 ho19 hb hg_ hnew_; clear hg_ hnew_; (first | rw [← Ny435.out] at ho19 | (simp only [Int.reduceToNat] at ho19; rw [← Ny435.out] at ho19)); have n0_ := Aside0.mk (Kd.N_elder' (by (with_reducible repeat (first | apply Kd.N_alloc | apply Kd.N_drewN | apply Kd.N_drew)); exact HO_5.out) (Kd.R_base ho19) hb); have n1_ := Aside0.mk (Kd.R_lower (Kd.R_newM (M := fun k_ => (w.heap.size ≤ k_)) ho19 (below_size (by repeat (first | (with_reducible first | exact HB.out | apply below_alloc | apply pw_below_drewN | apply below_drew1 | refine below_set ?_ GE434.out) | exact HB.out))) (fun k_ h_ => h_)) (below_size (by repeat (first | (with_reducible first | exact HB.out | apply below_alloc | apply pw_below_drewN | apply below_drew1 | refine below_set ?_ GE434.out) | exact HB.out)))); have n2_ := Aside0.mk (blk_below (g := gb434) (o := .cells #[.int .i64 a0_0, .string a0_1, .int .i64 a0_2, .slice A0_3 l0_3.length c0_3] 36 (0, 0)) (by (with_reducible repeat (first | refine blk_drewN ?_ _ | refine blk_drew ?_ | refine blk_alloc ?_ _)); exact BK434.out) hb); have n3_ := Aside0.mk (below_step (by repeat (first | (with_reducible first | exact HB.out | apply below_alloc | apply pw_below_drewN | apply below_drew1 | refine below_set ?_ GE434.out) | exact HB.out)) hb); clear HO_5; clear BK434; clear HB; have HO_5 := n0_; have HO437 := n1_; have BK434 := n2_; have HB := n3_; clear n0_ n1_ n2_ n3_; clear hb ho19) | ((with_reducible refine gate_builtin (b := .append) (xs := #[.tmp 16, .tmp 17]) rfl ?_); at_builtin; refine Kd.R_append_rows (Kd.int .i64) (w0 := w) w.heap.size rfl (.tmp 16) (.tmp 17) 26 3 (.int .i64 0) 8 rfl Tryd.underlying26 info3 rfl (by decide) (by omega) v436 y435 l1 _ _ _ (fun k_ => (w.heap.size ≤ k_)) (fun _ => False) rfl rfl ?aO ?aR (fun _ _ h => h) (fun _ h => h.elim) ?aF ?aB ?aS ?aL ?_; (case aR => repeat (first | exact (Kd.C_below HR1.out HB.out) | (with_reducible refine Kd.C_alloc ?_ _) | (with_reducible refine Kd.C_drewN ?_ _) | (with_reducible refine Kd.C_drew ?_))); (case aB => exact (by repeat (first | (with_reducible first | exact HB.out | apply below_alloc | apply pw_below_drewN | apply below_drew1 | refine below_set ?_ GE434.out) | exact HB.out))); (case aF => exact (fun k_ hk => (Nat.le_trans (below_size (by repeat (first | (with_reducible first | exact HB.out | apply below_alloc | apply pw_below_drewN | apply below_drew1 | refine below_set ?_ GE434.out) | exact HB.out))) hk))); (case aO => exact (by (with_reducible repeat (first | apply Kd.R_alloc | apply Kd.R_drewN | apply Kd.R_drew)); exact Kd.R_mono HO437.out (fun _ hk => hk.1))); (case aS => exact (below_size (by repeat (first | (with_reducible first | exact HB.out | apply below_alloc | apply pw_below_drewN | apply below_drew1 | refine below_set ?_ GE434.out) | exact HB.out)))); (case aL => have := LMc5.out; omega); intro v439 w20 ho hb hg hat; rw [← Ny438.out] at ho; have n0_ := Aside0.mk (Kd.N_afterv (ok := (fun k_ => (w.heap.size ≤ k_) ∧ k_ ≠ gb434)) (by (with_reducible repeat (first | apply Kd.N_alloc | apply Kd.N_drewN | apply Kd.N_drew)); exact HO_5.out) hg hat); have n1_ := Aside0.mk (blk_grown (g := gb434) (o := .cells #[.int .i64 a0_0, .string a0_1, .int .i64 a0_2, .slice A0_3 l0_3.length c0_3] 36 (0, 0)) (by (with_reducible repeat (first | refine blk_drewN ?_ _ | refine blk_drew ?_ | refine blk_alloc ?_ _)); exact BK434.out) hg (Kd.R_ne HO437.out BK434.out (by decide))); have n2_ := Aside0.mk (hb); have n3_ := Aside0.mk (ho); clear HO_5; clear BK434; clear HB; clear HO437; have HO_5 := n0_; have BK434 := n1_; have HB := n2_; have HO440 := n3_; clear n0_ n1_ n2_ n3_; clear ho hb hg hat) | ((with_reducible refine gate_builtin (b := .append) (xs := #[.tmp 18, .tmp 20]) rfl ?_); at_builtin; refine Kd.R_append (Kd.int .i64) (w0 := w) w.heap.size rfl (.tmp 18) (.tmp 20) 26 3 (.int .i64 0) 8 rfl Tryd.underlying26 info3 rfl (by decide) (by omega) v439 y438 x6_1 [.int .i64 x6_1] (fun k_ => (w.heap.size ≤ k_)) (fun _ => False) rfl rfl ?aP (fun _ hk => hk.elim) ?aF ?aO ?aB ?aS ?aL ?_; (case aP => exact rfl); (case aB => exact (by repeat (first | (with_reducible first | exact HB.out | apply below_alloc | apply pw_below_drewN | apply below_drew1 | refine below_set ?_ GE434.out) | exact HB.out))); (case aF => exact (fun k_ hk => (Nat.le_trans (below_size (by repeat (first | (with_reducible first | exact HB.out | apply below_alloc | apply pw_below_drewN | apply below_drew1 | refine below_set ?_ GE434.out) | exact HB.out))) hk))); (case aO => exact (by (with_reducible repeat (first | apply Kd.R_alloc | apply Kd.R_drewN | apply Kd.R_drew)); exact HO440.out)); (case aS => exact (below_size (by repeat (first | (with_reducible first | exact HB.out | apply below_alloc | apply pw_below_drewN | apply below_drew1 | refine below_set ?_ GE434.out) | exact HB.out)))); (case aL => have := LMc6.out; omega); intro v442 w21 ho hb hg hat; rw [← Ny441.out] at ho; have n0_ := Aside0.mk (Kd.N_afterv (ok := (fun k_ => (w.heap.size ≤ k_) ∧ k_ ≠ gb434)) (by (with_reducible repeat (first | apply Kd.N_alloc | apply Kd.N_drewN | apply Kd.N_drew)); exact HO_5.out) hg hat); have n1_ := Aside0.mk (blk_grown (g := gb434) (o := .cells #[.int .i64 a0_0, .string a0_1, .int .i64 a0_2, .slice A0_3 l0_3.length c0_3] 36 (0, 0)) (by (with_reducible repeat (first | refine blk_drewN ?_ _ | refine blk_drew ?_ | refine blk_alloc ?_ _)); exact BK434.out) hg (Kd.R_ne HO440.out BK434.out (by decide))); have n2_ := Aside0.mk (hb); have n3_ := Aside0.mk (ho); clear HO_5; clear BK434; clear HB; clear HO440; have HO_5 := n0_; have BK434 := n1_; have HB := n2_; have HO443 := n3_; clear n0_ n1_ n2_ n3_; clear ho hb hg hat; obtain ⟨Ao23, co23, eo23⟩ := Kd.R_slice HO443.out; subst eo23) | ((with_reducible refine gate_builtin (b := .append) (xs := #[.tmp 15, .tmp 22]) rfl ?_); at_builtin; refine Kd.N_append (Kd.slice 3 (Kd.int .i64)) (w0 := w) w.heap.size rfl (.tmp 15) (.tmp 22) 46 26 (.slice none 0 0) 24 rfl Tryd.underlying46 info26 rfl (by decide) (by omega) u5 x5_1 y441 [.slice Ao23 y441.length co23] (fun k_ => (w.heap.size ≤ k_) ∧ k_ ≠ gb434) (fun k_ => ((fun k_ => (w.heap.size ≤ k_) ∧ k_ ≠ gb434)) k_ ∧ some k_ ≠ (u5 : Value).ownBlock) rfl rfl ?aP (fun _ hk => hk) ?aF ?aO ?aB ?aS ?aL ?_; (case aP => exact (Kd.FK_slice_mk (Kd.R_reads' (Kd.R_mono (ok' := (fun k_ => ((fun k_ => (w.heap.size ≤ k_) ∧ k_ ≠ gb434)) k_ ∧ some k_ ≠ (u5 : Value).ownBlock)) (Kd.R_types (Kd.R_apart' (HO443.out) (Kd.N_typed HO_5.out) (by decide)) BK434.out (by decide)) (fun k_ hk => ⟨⟨hk.1.1, hk.2⟩, hk.1.2⟩))).2.1 (Kd.R_F (Kd.R_mono (ok' := (fun k_ => ((fun k_ => (w.heap.size ≤ k_) ∧ k_ ≠ gb434)) k_ ∧ some k_ ≠ (u5 : Value).ownBlock)) (Kd.R_types (Kd.R_apart' (HO443.out) (Kd.N_typed HO_5.out) (by decide)) BK434.out (by decide)) (fun k_ hk => ⟨⟨hk.1.1, hk.2⟩, hk.1.2⟩))))); (case aB => exact (by repeat (first | (with_reducible first | exact HB.out | apply below_alloc | apply pw_below_drewN | apply below_drew1 | refine below_set ?_ GE434.out) | exact HB.out))); (case aF => exact (fun k_ hk => ⟨(Nat.le_trans (below_size (by repeat (first | (with_reducible first | exact HB.out | apply below_alloc | apply pw_below_drewN | apply below_drew1 | refine below_set ?_ GE434.out) | exact HB.out))) hk), Kd.freshB (g := gb434) (o := .cells #[.int .i64 a0_0, .string a0_1, .int .i64 a0_2, .slice A0_3 l0_3.length c0_3] 36 (0, 0)) (by (with_reducible repeat (first | refine blk_drewN ?_ _ | refine blk_drew ?_ | refine blk_alloc ?_ _)); exact BK434.out) k_ hk⟩)); (case aO => exact (by (with_reducible repeat (first | apply Kd.N_alloc | apply Kd.N_drewN | apply Kd.N_drew)); exact Kd.N_mono HO_5.out (fun _ hk => ⟨hk.1.1, hk.1.2⟩))); (case aS => exact (below_size (by repeat (first | (with_reducible first | exact HB.out | apply below_alloc | apply pw_below_drewN | apply below_drew1 | refine below_set ?_ GE434.out) | exact HB.out)))); (case aL => have := LMc7.out; omega); intro v445 w22 ho hb hg hat; rw [← Ny444.out] at ho; have n0_ := Aside0.mk (blk_grown (g := gb434) (o := .cells #[.int .i64 a0_0, .string a0_1, .int .i64 a0_2, .slice A0_3 l0_3.length c0_3] 36 (0, 0)) (by (with_reducible repeat (first | refine blk_drewN ?_ _ | refine blk_drew ?_ | refine blk_alloc ?_ _)); exact BK434.out) hg (Kd.N_ne HO_5.out BK434.out (by decide))); have n1_ := Aside0.mk (hb); have n2_ := Aside0.mk (ho); clear BK434; clear HB; clear HO_5; clear HO443; have BK434 := n0_; have HB := n1_; have HO446 := n2_; clear n0_ n1_ n2_; clear ho hb hg hat; have hcz24_0 : w22.cell? ⟨gb434, 0, none⟩ = some (.int .i64 a0_0) := (blk_cell BK434.out 0).trans rfl; have hcz24_1 : w22.cell? ⟨gb434, 1, none⟩ = some (.string a0_1) := (blk_cell BK434.out 1).trans rfl; have hcz24_2 : w22.cell? ⟨gb434, 2, none⟩ = some (.int .i64 a0_2) := (blk_cell BK434.out 2).trans rfl; have hcz24_3 : w22.cell? ⟨gb434, 3, none⟩ = some (.slice A0_3 l0_3.length c0_3) := (blk_cell BK434.out 3).trans rfl; have hfz24_0 := blk_frozen BK434.out 0; have hfz24_1 := blk_frozen BK434.out 1; have hfz24_2 := blk_frozen BK434.out 2; have hfz24_3 := blk_frozen BK434.out 3))
        go_loopg [5, 7] k1 (fun kq v5 v7 w' => ∃ (x5_2 : List (List Int)) (x7_2 : Int), v7 = .int .i64 x7_2 ∧ Aside0 (vinculumref10_all.l1 kq l1 x5_2 x6_1 x7_2 a0_0 a0_1 a0_2 l0_3 = some r) ∧ Aside0 (kq ≤ k1) ∧ Aside0 (Kd.N (Kd.slice 3 (Kd.int .i64)) 26 w' w.heap.size (fun k_ => (w.heap.size ≤ k_) ∧ k_ ≠ gb434) v5 x5_2) ∧ Aside0 (w'.heap[gb434]? = some (.cells #[.int .i64 a0_0, .string a0_1, .int .i64 a0_2, (.slice A0_3 l0_3.length c0_3)] 36 (0, 0))) ∧ Aside0 (Below w.heap.size w w'))
        case atStart => exact ⟨(y444), (0), (by first | rfl | (simp; done) | (simp [*]; done)), H', ⟨Nat.le_refl _⟩, ⟨by (with_reducible repeat (first | apply Kd.N_alloc | apply Kd.N_drewN | apply Kd.N_drew)); exact HO446.out⟩, ⟨by (with_reducible repeat (first | refine blk_drewN ?_ _ | refine blk_drew ?_ | refine blk_alloc ?_ _)); exact BK434.out⟩, ⟨by repeat (first | (with_reducible first | exact HB.out | apply below_alloc | apply pw_below_drewN | apply below_drew1 | refine below_set ?_ GE434.out) | exact HB.out)⟩⟩
        case round =>
         clear H'
         try clear c1
         try clear p2
         try clear c4
         try clear c4b0
         try clear c5
         try clear c6
         try clear c7
         try clear c8
         try clear c8b0
         try clear c8b1
         try clear hcz16_0
         try clear hcz16_1
         try clear hcz16_2
         try clear hcz16_3
         try clear hcz17_0
         try clear hcz17_1
         try clear hcz17_2
         try clear hcz17_3
         try clear hcz24_0
         try clear hcz24_1
         try clear hcz24_2
         try clear hcz24_3
         try clear hcz9_0
         try clear hcz9_1
         try clear hcz9_2
         try clear hcz9_3
         try clear hfz16_0
         try clear hfz16_1
         try clear hfz16_2
         try clear hfz16_3
         try clear hfz17_0
         try clear hfz17_1
         try clear hfz17_2
         try clear hfz17_3
         try clear hfz24_0
         try clear hfz24_1
         try clear hfz24_2
         try clear hfz24_3
         try clear hfz9_0
         try clear hfz9_1
         try clear hfz9_2
         try clear hfz9_3
         try clear p2
         obtain ⟨x5_2, x7_2, rfl, HA, HK2, HO_5, BK434, HB⟩ := hrel
         cases gk with
         | zero => exact absurd HA.out (by simp [vinculumref10_all.l1])
         | succ k2 =>
          have H := HA.out
          clear HA
          simp only [vinculumref10_all.l1] at H
          by_cases c25 : 0 ≤ x6_1
          ·
           rw [if_pos c25] at H
           have c25b0 : decide (0 ≤ x6_1) = true := decide_eq_true c25
           clear c25
           by_cases c26 : x6_1 < (l0_3.length : Int)
           ·
            rw [if_pos c26] at H
            have c26b0 : decide (x6_1 < (l0_3.length : Int)) = true := decide_eq_true c26
            clear c26
            by_cases c27 : x7_2 < (((rd_T36 l0_3 x6_1).f3).length : Int)
            ·
             rw [if_pos c27] at H
             have c27b0 : decide (x7_2 < (((rd_T36 l0_3 x6_1).f3).length : Int)) = true := decide_eq_true c27
             clear c27
             by_cases c28 : 0 ≤ x7_2
             ·
              rw [if_pos c28] at H
              have c28b0 : decide (0 ≤ x7_2) = true := decide_eq_true c28
              clear c28
              obtain ⟨y450, hy450⟩ : ∃ y_ : List Int, y_ = (([] : List Int)) := ⟨_, rfl⟩
              replace H : (if y450.length + l1.length < 17592186044416 then ((some (y450 ++ l1 : List Int)).bind fun y453 => ((some (([x6_1, x7_2] : List Int) : List Int)).bind fun y456 => (if y453.length + y456.length < 17592186044416 then ((vinculumref10_all.f k2 ((rd_T36 ((rd_T36 l0_3 x6_1).f3) x7_2).f0) ((rd_T36 ((rd_T36 l0_3 x6_1).f3) x7_2).f1) ((rd_T36 ((rd_T36 l0_3 x6_1).f3) x7_2).f2) ((rd_T36 ((rd_T36 l0_3 x6_1).f3) x7_2).f3) (y453 ++ y456)).bind fun t462 => (if x5_2.length + t462.length < 5864062014805 then (vinculumref10_all.l1 k2 l1 (x5_2 ++ t462) x6_1 (wrap64 (x7_2 + 1)) a0_0 a0_1 a0_2 l0_3) else (none))) else (none)))) else (none)) = some r := by first | (rw [hy450]; with_reducible exact H) | (have H2_ := (Option.bind_some _ _).symm.trans H; rw [hy450]; with_reducible exact H2_) | (have H2_ := (Option.bind_some _ _).symm.trans H; with_reducible exact H2_) | with_reducible exact H | (rw [hy450]; exact H) | exact H
              have Ny450 := Aside0.mk hy450
              clear hy450
              by_cases c29 : y450.length + l1.length < 17592186044416
              ·
               rw [if_pos c29] at H
               have LMc29 := Aside0.mk c29
               clear c29
               obtain ⟨y453, hy453⟩ : ∃ y_ : List Int, y_ = (y450 ++ l1) := ⟨_, rfl⟩
               replace H : ((some (([x6_1, x7_2] : List Int) : List Int)).bind fun y456 => (if y453.length + y456.length < 17592186044416 then ((vinculumref10_all.f k2 ((rd_T36 ((rd_T36 l0_3 x6_1).f3) x7_2).f0) ((rd_T36 ((rd_T36 l0_3 x6_1).f3) x7_2).f1) ((rd_T36 ((rd_T36 l0_3 x6_1).f3) x7_2).f2) ((rd_T36 ((rd_T36 l0_3 x6_1).f3) x7_2).f3) (y453 ++ y456)).bind fun t462 => (if x5_2.length + t462.length < 5864062014805 then (vinculumref10_all.l1 k2 l1 (x5_2 ++ t462) x6_1 (wrap64 (x7_2 + 1)) a0_0 a0_1 a0_2 l0_3) else (none))) else (none))) = some r := by first | (rw [hy453]; with_reducible exact H) | (have H2_ := (Option.bind_some _ _).symm.trans H; rw [hy453]; with_reducible exact H2_) | (have H2_ := (Option.bind_some _ _).symm.trans H; with_reducible exact H2_) | with_reducible exact H | (rw [hy453]; exact H) | exact H
               have Ny453 := Aside0.mk hy453
               clear hy453
               obtain ⟨y456, hy456⟩ : ∃ y_ : List Int, y_ = (([x6_1, x7_2] : List Int)) := ⟨_, rfl⟩
               replace H : (if y453.length + y456.length < 17592186044416 then ((vinculumref10_all.f k2 ((rd_T36 ((rd_T36 l0_3 x6_1).f3) x7_2).f0) ((rd_T36 ((rd_T36 l0_3 x6_1).f3) x7_2).f1) ((rd_T36 ((rd_T36 l0_3 x6_1).f3) x7_2).f2) ((rd_T36 ((rd_T36 l0_3 x6_1).f3) x7_2).f3) (y453 ++ y456)).bind fun t462 => (if x5_2.length + t462.length < 5864062014805 then (vinculumref10_all.l1 k2 l1 (x5_2 ++ t462) x6_1 (wrap64 (x7_2 + 1)) a0_0 a0_1 a0_2 l0_3) else (none))) else (none)) = some r := by first | (rw [hy456]; with_reducible exact H) | (have H2_ := (Option.bind_some _ _).symm.trans H; rw [hy456]; with_reducible exact H2_) | (have H2_ := (Option.bind_some _ _).symm.trans H; with_reducible exact H2_) | with_reducible exact H | (rw [hy456]; exact H) | exact H
               have Ny456 := Aside0.mk hy456
               clear hy456
               by_cases c30 : y453.length + y456.length < 17592186044416
               ·
                rw [if_pos c30] at H
                have LMc30 := Aside0.mk c30
                clear c30
                obtain ⟨y459, hy459⟩ : ∃ y_ : List Int, y_ = (y453 ++ y456) := ⟨_, rfl⟩
                replace H : ((vinculumref10_all.f k2 ((rd_T36 ((rd_T36 l0_3 x6_1).f3) x7_2).f0) ((rd_T36 ((rd_T36 l0_3 x6_1).f3) x7_2).f1) ((rd_T36 ((rd_T36 l0_3 x6_1).f3) x7_2).f2) ((rd_T36 ((rd_T36 l0_3 x6_1).f3) x7_2).f3) y459).bind fun t462 => (if x5_2.length + t462.length < 5864062014805 then (vinculumref10_all.l1 k2 l1 (x5_2 ++ t462) x6_1 (wrap64 (x7_2 + 1)) a0_0 a0_1 a0_2 l0_3) else (none))) = some r := by first | (rw [hy459]; with_reducible exact H) | (have H2_ := (Option.bind_some _ _).symm.trans H; rw [hy459]; with_reducible exact H2_) | (have H2_ := (Option.bind_some _ _).symm.trans H; with_reducible exact H2_) | with_reducible exact H | (rw [hy459]; exact H) | exact H
                have Ny459 := Aside0.mk hy459
                clear hy459
                replace H := Option.bind_eq_some_iff.mp H
                obtain ⟨t462, A310, H⟩ := H
                replace H : (if x5_2.length + t462.length < 5864062014805 then (vinculumref10_all.l1 k2 l1 (x5_2 ++ t462) x6_1 (wrap64 (x7_2 + 1)) a0_0 a0_1 a0_2 l0_3) else (none)) = some r := H
                have A31 := Aside0.mk A310
                clear A310
                by_cases c32 : x5_2.length + t462.length < 5864062014805
                ·
                 rw [if_pos c32] at H
                 have LMc32 := Aside0.mk c32
                 clear c32
                 obtain ⟨y465, hy465⟩ : ∃ y_ : List (List Int), y_ = (x5_2 ++ t462) := ⟨_, rfl⟩
                 replace H : (vinculumref10_all.l1 k2 l1 y465 x6_1 (wrap64 (x7_2 + 1)) a0_0 a0_1 a0_2 l0_3) = some r := by first | (rw [hy465]; with_reducible exact H) | (have H2_ := (Option.bind_some _ _).symm.trans H; rw [hy465]; with_reducible exact H2_) | (have H2_ := (Option.bind_some _ _).symm.trans H; with_reducible exact H2_) | with_reducible exact H | (rw [hy465]; exact H) | exact H
                 have Ny465 := Aside0.mk hy465
                 clear hy465
                 have H' := Aside0.mk H
                 clear H
                 have hcz33_0 : wr.cell? ⟨gb434, 0, none⟩ = some (.int .i64 a0_0) := (blk_cell BK434.out 0).trans rfl
                 have hcz33_1 : wr.cell? ⟨gb434, 1, none⟩ = some (.string a0_1) := (blk_cell BK434.out 1).trans rfl
                 have hcz33_2 : wr.cell? ⟨gb434, 2, none⟩ = some (.int .i64 a0_2) := (blk_cell BK434.out 2).trans rfl
                 have hcz33_3 : wr.cell? ⟨gb434, 3, none⟩ = some (.slice A0_3 l0_3.length c0_3) := (blk_cell BK434.out 3).trans rfl
                 have hfz33_0 := blk_frozen BK434.out 0
                 have hfz33_1 := blk_frozen BK434.out 1
                 have hfz33_2 := blk_frozen BK434.out 2
                 have hfz33_3 := blk_frozen BK434.out 3
                 have p447 : 0 ≤ (x6_1 : Int) := of_decide_eq_true (by first | (with_reducible assumption) | assumption)
                 have q447 : x6_1 < (l0_3.length : Int) := of_decide_eq_true (by first | (with_reducible assumption) | assumption)
                 obtain ⟨ad447, A447_3, c447_3, e447, hx447_0, hx447_1, hx447_2, hx447_3, hl447_3, hi447_3⟩ := at_T36 HR0_3.out x6_1 p447 q447
                 cases e447
                 replace hx447_0 := (HB.out.cell (World.block_lt_of_cell? w _ hx447_0)).trans hx447_0
                 replace hx447_1 := (HB.out.cell (World.block_lt_of_cell? w _ hx447_1)).trans hx447_1
                 replace hx447_2 := (HB.out.cell (World.block_lt_of_cell? w _ hx447_2)).trans hx447_2
                 replace hx447_3 := (HB.out.cell (World.block_lt_of_cell? w _ hx447_3)).trans hx447_3
                 have HR447_3 := Aside0.mk hi447_3
                 have HC447_3 := Aside0.mk hl447_3
                 clear hi447_3 hl447_3
                 replace p447 := eq_true p447
                 replace q447 := eq_true q447
                 obtain ⟨Ao34, co34, eo34⟩ := Kd.N_slice HO_5.out
                 subst eo34
                 try go_wp2
                 have n0_ := Aside0.mk (Kd.N_drew HO_5.out)
                 have n1_ := Aside0.mk (blk_drew BK434.out)
                 have n2_ := Aside0.mk (below_drew1 HB.out)
                 clear HO_5
                 clear BK434
                 clear HB
                 have HO_5 := n0_
                 have BK434 := n1_
                 have HB := n2_
                 clear n0_ n1_ n2_
                 have p448 : 0 ≤ (x6_1 : Int) := of_decide_eq_true (by first | (with_reducible assumption) | assumption)
                 have q448 : x6_1 < (l0_3.length : Int) := of_decide_eq_true (by first | (with_reducible assumption) | assumption)
                 obtain ⟨ad448, A448_3, c448_3, e448, hx448_0, hx448_1, hx448_2, hx448_3, hl448_3, hi448_3⟩ := at_T36 HR0_3.out x6_1 p448 q448
                 have hw448_3 := hx448_3
                 have hw448_2 := hx448_2
                 have hw448_1 := hx448_1
                 have hw448_0 := hx448_0
                 obtain rfl : ad447 = ad448 := (by injection e448)
                 replace hx448_0 := (HB.out.cell (World.block_lt_of_cell? w _ hx448_0)).trans hx448_0
                 replace hx448_1 := (HB.out.cell (World.block_lt_of_cell? w _ hx448_1)).trans hx448_1
                 replace hx448_2 := (HB.out.cell (World.block_lt_of_cell? w _ hx448_2)).trans hx448_2
                 replace hx448_3 := (HB.out.cell (World.block_lt_of_cell? w _ hx448_3)).trans hx448_3
                 have HR448_3 := Aside0.mk hi448_3
                 have HC448_3 := Aside0.mk hl448_3
                 clear hi448_3 hl448_3
                 replace p448 := eq_true p448
                 replace q448 := eq_true q448
                 have p449 : 0 ≤ (x7_2 : Int) := of_decide_eq_true (by first | (with_reducible assumption) | assumption)
                 have q449 : x7_2 < (((rd_T36 l0_3 x6_1).f3).length : Int) := of_decide_eq_true (by first | (with_reducible assumption) | assumption)
                 obtain ⟨ad449, A449_3, c449_3, e449, hx449_0, hx449_1, hx449_2, hx449_3, hl449_3, hi449_3⟩ := at_T36 HR448_3.out x7_2 p449 q449
                 have hw449_3 := hx449_3
                 have hw449_2 := hx449_2
                 have hw449_1 := hx449_1
                 have hw449_0 := hx449_0
                 cases e449
                 replace hx449_0 := (HB.out.cell (World.block_lt_of_cell? w _ hx449_0)).trans hx449_0
                 replace hx449_1 := (HB.out.cell (World.block_lt_of_cell? w _ hx449_1)).trans hx449_1
                 replace hx449_2 := (HB.out.cell (World.block_lt_of_cell? w _ hx449_2)).trans hx449_2
                 replace hx449_3 := (HB.out.cell (World.block_lt_of_cell? w _ hx449_3)).trans hx449_3
                 have HR449_3 := Aside0.mk hi449_3
                 have HC449_3 := Aside0.mk hl449_3
                 clear hi449_3 hl449_3
                 replace p449 := eq_true p449
                 replace q449 := eq_true q449
                 refine start_ (n := 20) (S := fun w' => w'.cell? ⟨gb434, 0, none⟩ = some (.int .i64 a0_0) ∧ w'.cell? ⟨gb434, 1, none⟩ = some (.string a0_1) ∧ w'.cell? ⟨gb434, 2, none⟩ = some (.int .i64 a0_2) ∧ w'.cell? ⟨gb434, 3, none⟩ = some (.slice (some ad447) l0_3.length c0_3) ∧ w'.cell? (ad447.add ((x6_1).toNat * 4)) = some (.int .i64 ((rd_T36 l0_3 x6_1).f0)) ∧ w'.cell? ⟨(ad447.add ((x6_1).toNat * 4)).block, (ad447.add ((x6_1).toNat * 4)).off + 1, none⟩ = some (.string ((rd_T36 l0_3 x6_1).f1)) ∧ w'.cell? ⟨(ad447.add ((x6_1).toNat * 4)).block, (ad447.add ((x6_1).toNat * 4)).off + 2, none⟩ = some (.int .i64 ((rd_T36 l0_3 x6_1).f2)) ∧ w'.cell? ⟨(ad447.add ((x6_1).toNat * 4)).block, (ad447.add ((x6_1).toNat * 4)).off + 3, none⟩ = some (.slice (some ad449) ((rd_T36 l0_3 x6_1).f3).length c448_3) ∧ w'.cell? (ad449.add ((x7_2).toNat * 4)) = some (.int .i64 ((rd_T36 ((rd_T36 l0_3 x6_1).f3) x7_2).f0)) ∧ w'.cell? ⟨(ad449.add ((x7_2).toNat * 4)).block, (ad449.add ((x7_2).toNat * 4)).off + 1, none⟩ = some (.string ((rd_T36 ((rd_T36 l0_3 x6_1).f3) x7_2).f1)) ∧ w'.cell? ⟨(ad449.add ((x7_2).toNat * 4)).block, (ad449.add ((x7_2).toNat * 4)).off + 2, none⟩ = some (.int .i64 ((rd_T36 ((rd_T36 l0_3 x6_1).f3) x7_2).f2)) ∧ w'.cell? ⟨(ad449.add ((x7_2).toNat * 4)).block, (ad449.add ((x7_2).toNat * 4)).off + 3, none⟩ = some (.slice A449_3 ((rd_T36 ((rd_T36 l0_3 x6_1).f3) x7_2).f3).length c449_3)) (ds := []) #[false, false, false, false, false, false, false, false, false, false, false, false, false, false, false, false, false, false, false, false] (by kernel_rfl) rfl rfl ⟨(blk_cell BK434.out 0).trans rfl, (blk_cell BK434.out 1).trans rfl, (blk_cell BK434.out 2).trans rfl, (blk_cell BK434.out 3).trans rfl, ((HB.out.cell (World.block_lt_of_cell? w _ hw448_0)).trans hw448_0), ((HB.out.cell (World.block_lt_of_cell? w _ hw448_1)).trans hw448_1), ((HB.out.cell (World.block_lt_of_cell? w _ hw448_2)).trans hw448_2), ((HB.out.cell (World.block_lt_of_cell? w _ hw448_3)).trans hw448_3), ((HB.out.cell (World.block_lt_of_cell? w _ hw449_0)).trans hw449_0), ((HB.out.cell (World.block_lt_of_cell? w _ hw449_1)).trans hw449_1), ((HB.out.cell (World.block_lt_of_cell? w _ hw449_2)).trans hw449_2), ((HB.out.cell (World.block_lt_of_cell? w _ hw449_3)).trans hw449_3)⟩ (fun hHeld => ?_); refine with_tabW vinculumref10_all.tab10 vinculumref10_all.bits10 (fun HT_ HW_ => ?_)
                 generalize wr.drew = w35 at HO_5 BK434 HB HR448_3 HR449_3 hx448_0 hx448_1 hx448_2 hx448_3 hx449_0 hx449_1 hx449_2 hx449_3 hHeld ⊢
                 refine pure_ (i := 0) (N := some 40) (v := ?_) (a' := ?_) #[true, false, false, false, false, false, false, false, false, false, false, false, false, false, false, false, false, false, false, false] rfl rfl (any_of HT_.out (by kernel_rfl)) (fun _ _ _ h => h) (Or.inl ⟨by rfl, ?_⟩) ?_ ?_
                 rotate_left
                 ·
                  intro w'
                  go_simp
                  first | with_reducible rfl | (rw [own_len_N ?hl_ ?hu_]; (case hl_ => assumption); (case hu_ => kernel_rfl); (try with_reducible rfl)) | (rw [own_len_R ?hl_ ?hu_]; (case hl_ => assumption); (case hu_ => kernel_rfl); (try with_reducible rfl))
                 rotate_left
                 ·
                  simp only [Act.put, List.setIfInBounds_toArray, List.set_cons_zero, List.set_cons_succ, i64_w, i32_w]
                  rfl
                 refine pure_ (i := 1) (N := some 41) (v := ?_) (a' := ?_) #[true, true, false, false, false, false, false, false, false, false, false, false, false, false, false, false, false, false, false, false] rfl rfl (any_of HT_.out (by kernel_rfl)) (fun _ _ _ h => h) (Or.inl ⟨by rfl, ?_⟩) ?_ ?_
                 rotate_left
                 ·
                  intro w'
                  go_simp
                  first | with_reducible rfl | (rw [own_len_N ?hl_ ?hu_]; (case hl_ => assumption); (case hu_ => kernel_rfl); (try with_reducible rfl)) | (rw [own_len_R ?hl_ ?hu_]; (case hl_ => assumption); (case hu_ => kernel_rfl); (try with_reducible rfl))
                 rotate_left
                 ·
                  simp only [Act.put, List.setIfInBounds_toArray, List.set_cons_zero, List.set_cons_succ, i64_w, i32_w]
                  rfl
                 refine pure_ (i := 3) (N := some 43) (v := ?_) (a' := ?_) #[true, true, false, true, false, false, false, false, false, false, false, false, false, false, false, false, false, false, false, false] rfl rfl (any_of HT_.out (by kernel_rfl)) (fun _ _ _ h => h) (Or.inl ⟨by rfl, ?_⟩) ?_ ?_
                 rotate_left
                 ·
                  intro w'
                  go_simp
                  first | with_reducible rfl | (rw [own_len_N ?hl_ ?hu_]; (case hl_ => assumption); (case hu_ => kernel_rfl); (try with_reducible rfl)) | (rw [own_len_R ?hl_ ?hu_]; (case hl_ => assumption); (case hu_ => kernel_rfl); (try with_reducible rfl))
                 rotate_left
                 ·
                  simp only [Act.put, List.setIfInBounds_toArray, List.set_cons_zero, List.set_cons_succ, i64_w, i32_w]
                  rfl
                 refine pure_ (i := 7) (N := some 47) (v := ?_) (a' := ?_) #[true, true, false, true, false, false, false, true, false, false, false, false, false, false, false, false, false, false, false, false] rfl rfl (any_of HT_.out (by kernel_rfl)) (fun _ _ _ h => h) (Or.inl ⟨by rfl, ?_⟩) ?_ ?_
                 rotate_left
                 ·
                  intro w'
                  go_simp
                  first | with_reducible rfl | (rw [own_len_N ?hl_ ?hu_]; (case hl_ => assumption); (case hu_ => kernel_rfl); (try with_reducible rfl)) | (rw [own_len_R ?hl_ ?hu_]; (case hl_ => assumption); (case hu_ => kernel_rfl); (try with_reducible rfl))
                 rotate_left
                 ·
                  simp only [Act.put, List.setIfInBounds_toArray, List.set_cons_zero, List.set_cons_succ, i64_w, i32_w]
                  rfl
                 refine pure_ (i := 11) (N := some 51) (v := ?_) (a' := ?_) #[true, true, false, true, false, false, false, true, false, false, false, true, false, false, false, false, false, false, false, false] rfl rfl (any_of HT_.out (by kernel_rfl)) (fun _ _ _ h => h) (Or.inl ⟨by rfl, ?_⟩) ?_ ?_
                 rotate_left
                 ·
                  intro w'
                  go_simp
                  first | with_reducible rfl | (rw [own_len_N ?hl_ ?hu_]; (case hl_ => assumption); (case hu_ => kernel_rfl); (try with_reducible rfl)) | (rw [own_len_R ?hl_ ?hu_]; (case hl_ => assumption); (case hu_ => kernel_rfl); (try with_reducible rfl))
                 rotate_left
                 ·
                  simp only [Act.put, List.setIfInBounds_toArray, List.set_cons_zero, List.set_cons_succ, i64_w, i32_w]
                  rfl
                 refine pure_ (i := 13) (N := some 53) (v := ?_) (a' := ?_) #[true, true, false, true, false, false, false, true, false, false, false, true, false, true, false, false, false, false, false, false] rfl rfl (any_of HT_.out (by kernel_rfl)) (fun _ _ _ h => h) (Or.inl ⟨by rfl, ?_⟩) ?_ ?_
                 rotate_left
                 ·
                  intro w'
                  go_simp
                  first | with_reducible rfl | (rw [own_len_N ?hl_ ?hu_]; (case hl_ => assumption); (case hu_ => kernel_rfl); (try with_reducible rfl)) | (rw [own_len_R ?hl_ ?hu_]; (case hl_ => assumption); (case hu_ => kernel_rfl); (try with_reducible rfl))
                 rotate_left
                 ·
                  simp only [Act.put, List.setIfInBounds_toArray, List.set_cons_zero, List.set_cons_succ, i64_w, i32_w]
                  rfl
                 refine pure_ (i := 14) (N := some 54) (v := ?_) (a' := ?_) #[true, true, false, true, false, false, false, true, false, false, false, true, false, true, true, false, false, false, false, false] rfl rfl (any_of HT_.out (by kernel_rfl)) (fun _ _ _ h => h) (Or.inl ⟨by rfl, ?_⟩) ?_ ?_
                 rotate_left
                 ·
                  intro w'
                  go_simp
                  first | with_reducible rfl | (rw [own_len_N ?hl_ ?hu_]; (case hl_ => assumption); (case hu_ => kernel_rfl); (try with_reducible rfl)) | (rw [own_len_R ?hl_ ?hu_]; (case hl_ => assumption); (case hu_ => kernel_rfl); (try with_reducible rfl))
                 rotate_left
                 ·
                  simp only [Act.put, List.setIfInBounds_toArray, List.set_cons_zero, List.set_cons_succ, i64_w, i32_w]
                  rfl
                 refine take_ (i := 2) (N := some 42) (v := ?_) (a' := ?_) #[true, true, true, true, false, false, false, true, false, false, false, true, false, true, true, false, false, false, false, false] rfl rfl (take_ofW HT_.out HW_.out (by kernel_rfl)) (fun _ _ _ h => h) (Or.inl ⟨by rfl, ?_⟩) hHeld ?_ ?_
                 rotate_left
                 ·
                  rintro w' ⟨s0, s1, s2, s3, s4, s5, s6, s7, s8, s9, s10, s11⟩
                  go_simp
                  with_reducible rfl
                 rotate_left
                 ·
                  simp only [Act.put, List.setIfInBounds_toArray, List.set_cons_zero, List.set_cons_succ, i64_w, i32_w]
                  rfl
                 refine pure_ (i := 4) (N := some 44) (v := ?_) (a' := ?_) #[true, true, true, true, true, false, false, true, false, false, false, true, false, true, true, false, false, false, false, false] rfl rfl (any_of HT_.out (by kernel_rfl)) (fun _ _ _ h => h) (Or.inl ⟨by rfl, ?_⟩) ?_ ?_
                 rotate_left
                 ·
                  intro w'
                  go_simp
                  first | with_reducible rfl | (rw [own_len_N ?hl_ ?hu_]; (case hl_ => assumption); (case hu_ => kernel_rfl); (try with_reducible rfl)) | (rw [own_len_R ?hl_ ?hu_]; (case hl_ => assumption); (case hu_ => kernel_rfl); (try with_reducible rfl))
                 rotate_left
                 ·
                  simp only [Act.put, List.setIfInBounds_toArray, List.set_cons_zero, List.set_cons_succ, i64_w, i32_w]
                  rfl
                 refine pure_ (i := 5) (N := some 45) (v := ?_) (a' := ?_) #[true, true, true, true, true, true, false, true, false, false, false, true, false, true, true, false, false, false, false, false] rfl rfl (any_of HT_.out (by kernel_rfl)) (fun _ _ _ h => h) (Or.inl ⟨by rfl, ?_⟩) ?_ ?_
                 rotate_left
                 ·
                  intro w'
                  go_simp
                  first | with_reducible rfl | (rw [own_len_N ?hl_ ?hu_]; (case hl_ => assumption); (case hu_ => kernel_rfl); (try with_reducible rfl)) | (rw [own_len_R ?hl_ ?hu_]; (case hl_ => assumption); (case hu_ => kernel_rfl); (try with_reducible rfl))
                 rotate_left
                 ·
                  simp only [Act.put, List.setIfInBounds_toArray, List.set_cons_zero, List.set_cons_succ, i64_w, i32_w]
                  rfl
                 refine take_ (i := 6) (N := some 46) (v := ?_) (a' := ?_) #[true, true, true, true, true, true, true, true, false, false, false, true, false, true, true, false, false, false, false, false] rfl rfl (take_ofW HT_.out HW_.out (by kernel_rfl)) (fun _ _ _ h => h) (Or.inl ⟨by rfl, ?_⟩) hHeld ?_ ?_
                 rotate_left
                 ·
                  rintro w' ⟨s0, s1, s2, s3, s4, s5, s6, s7, s8, s9, s10, s11⟩
                  go_simp
                  with_reducible rfl
                 rotate_left
                 ·
                  simp only [Act.put, List.setIfInBounds_toArray, List.set_cons_zero, List.set_cons_succ, i64_w, i32_w]
                  rfl
                 refine pure_ (i := 8) (N := some 48) (v := ?_) (a' := ?_) #[true, true, true, true, true, true, true, true, true, false, false, true, false, true, true, false, false, false, false, false] rfl rfl (any_of HT_.out (by kernel_rfl)) (fun _ _ _ h => h) (Or.inl ⟨by rfl, ?_⟩) ?_ ?_
                 rotate_left
                 ·
                  intro w'
                  go_simp
                  first | with_reducible rfl | (rw [own_len_N ?hl_ ?hu_]; (case hl_ => assumption); (case hu_ => kernel_rfl); (try with_reducible rfl)) | (rw [own_len_R ?hl_ ?hu_]; (case hl_ => assumption); (case hu_ => kernel_rfl); (try with_reducible rfl))
                 rotate_left
                 ·
                  simp only [Act.put, List.setIfInBounds_toArray, List.set_cons_zero, List.set_cons_succ, i64_w, i32_w]
                  rfl
                 refine take_ (i := 9) (N := some 49) (v := ?_) (a' := ?_) #[true, true, true, true, true, true, true, true, true, true, false, true, false, true, true, false, false, false, false, false] rfl rfl (take_ofW HT_.out HW_.out (by kernel_rfl)) (fun _ _ _ h => h) (Or.inl ⟨by rfl, ?_⟩) hHeld ?_ ?_
                 rotate_left
                 ·
                  rintro w' ⟨s0, s1, s2, s3, s4, s5, s6, s7, s8, s9, s10, s11⟩
                  go_simp
                  with_reducible rfl
                 rotate_left
                 ·
                  simp only [Act.put, List.setIfInBounds_toArray, List.set_cons_zero, List.set_cons_succ, i64_w, i32_w]
                  rfl
                 refine join_ (σ := Value × Value × Value) 4 #[true, true, true, true, true, true, true, true, true, true, true, true, true, true, true, true, false, false, false, false] (fun s_ => [(50, s_.1), (52, s_.2.1), (55, s_.2.2)]) (fun s_ w' => (w'.cell? ⟨gb434, 0, none⟩ = some (.int .i64 a0_0) ∧ w'.cell? ⟨gb434, 1, none⟩ = some (.string a0_1) ∧ w'.cell? ⟨gb434, 2, none⟩ = some (.int .i64 a0_2) ∧ w'.cell? ⟨gb434, 3, none⟩ = some (.slice (some ad447) l0_3.length c0_3) ∧ w'.cell? (ad447.add ((x6_1).toNat * 4)) = some (.int .i64 ((rd_T36 l0_3 x6_1).f0)) ∧ w'.cell? ⟨(ad447.add ((x6_1).toNat * 4)).block, (ad447.add ((x6_1).toNat * 4)).off + 1, none⟩ = some (.string ((rd_T36 l0_3 x6_1).f1)) ∧ w'.cell? ⟨(ad447.add ((x6_1).toNat * 4)).block, (ad447.add ((x6_1).toNat * 4)).off + 2, none⟩ = some (.int .i64 ((rd_T36 l0_3 x6_1).f2)) ∧ w'.cell? ⟨(ad447.add ((x6_1).toNat * 4)).block, (ad447.add ((x6_1).toNat * 4)).off + 3, none⟩ = some (.slice (some ad449) ((rd_T36 l0_3 x6_1).f3).length c448_3) ∧ w'.cell? (ad449.add ((x7_2).toNat * 4)) = some (.int .i64 ((rd_T36 ((rd_T36 l0_3 x6_1).f3) x7_2).f0)) ∧ w'.cell? ⟨(ad449.add ((x7_2).toNat * 4)).block, (ad449.add ((x7_2).toNat * 4)).off + 1, none⟩ = some (.string ((rd_T36 ((rd_T36 l0_3 x6_1).f3) x7_2).f1)) ∧ w'.cell? ⟨(ad449.add ((x7_2).toNat * 4)).block, (ad449.add ((x7_2).toNat * 4)).off + 2, none⟩ = some (.int .i64 ((rd_T36 ((rd_T36 l0_3 x6_1).f3) x7_2).f2)) ∧ w'.cell? ⟨(ad449.add ((x7_2).toNat * 4)).block, (ad449.add ((x7_2).toNat * 4)).off + 3, none⟩ = some (.slice A449_3 ((rd_T36 ((rd_T36 l0_3 x6_1).f3) x7_2).f3).length c449_3)) ∧ (Kd.R (Kd.int .i64) 3 w' w.heap.size (fun k_ => (w.heap.size ≤ k_) ∧ some k_ ≠ (s_.2.2 : Value).ownBlock) s_.2.1 y453) ∧ (Kd.R (Kd.int .i64) 3 w' w.heap.size (fun k_ => (w.heap.size ≤ k_) ∧ some k_ ≠ (s_.2.1 : Value).ownBlock) s_.2.2 y456) ∧ (Kd.N (Kd.slice 3 (Kd.int .i64)) 26 w' w.heap.size (fun k_ => (w.heap.size ≤ k_) ∧ some k_ ≠ (s_.2.1 : Value).ownBlock ∧ some k_ ≠ (s_.2.2 : Value).ownBlock ∧ k_ ≠ gb434) (.slice Ao34 x5_2.length co34) x5_2) ∧ (w'.heap[gb434]? = some (.cells #[.int .i64 a0_0, .string a0_1, .int .i64 a0_2, .slice (some ad447) l0_3.length c0_3] 36 (0, 0))) ∧ (Below w.heap.size w w')) ?_ ?_
                 rotate_left
                 ·
                  intro hCont
                  refine two_ (i := 10) (j := 15) (Ni := some 50) (Nj := some 55) #[true, true, true, true, true, true, true, true, true, true, true, true, false, true, true, false, false, false, false, false] #[true, true, true, true, true, true, true, true, true, true, false, true, false, true, true, true, false, false, false, false] rfl rfl rfl rfl (two_of HT_.out (by kernel_rfl)) (by decide) (by decide) (fun K hK => ?_) (fun K hK => ?_)
                  ·
                   skip
                   refine Kd.R_lit_step (Kd.int .i64) _ 3 ?hg (N := 50) ?hd (xs := ([] : List Int)) (inner := []) (ok := fun _ => True) (okp := fun _ => True) ?hr ?hp (fun _ hk => hk) trivial (Below.refl _ _) (Nat.le_refl _) (by simp) ?_; (case hd => rfl); (case hg => rfl); (case hr => first | (go_simp; done) | (go_simp; rfl)); (case hp => exact (Reps.none _ _))
                   intro v451 w36 ho37 hb hg_ hnew_
                   clear hg_ hnew_
                   (first | rw [← Ny450.out] at ho37 | (simp only [Int.reduceToNat] at ho37; rw [← Ny450.out] at ho37))
                   have n0_ := Aside0.mk (Kd.N_elder' (by (with_reducible repeat (first | apply Kd.N_alloc | apply Kd.N_drewN | apply Kd.N_drew)); exact HO_5.out) (Kd.R_base ho37) hb)
                   have n1_ := Aside0.mk (Kd.R_lower (Kd.R_newM (M := fun k_ => (w.heap.size ≤ k_)) ho37 (below_size (by repeat (first | (with_reducible first | exact HB.out | apply below_alloc | apply pw_below_drewN | apply below_drew1 | refine below_set ?_ GE434.out) | exact HB.out))) (fun k_ h_ => h_)) (below_size (by repeat (first | (with_reducible first | exact HB.out | apply below_alloc | apply pw_below_drewN | apply below_drew1 | refine below_set ?_ GE434.out) | exact HB.out))))
                   have n2_ := Aside0.mk (blk_below (g := gb434) (o := .cells #[.int .i64 a0_0, .string a0_1, .int .i64 a0_2, .slice (some ad447) l0_3.length c0_3] 36 (0, 0)) (by (with_reducible repeat (first | refine blk_drewN ?_ _ | refine blk_drew ?_ | refine blk_alloc ?_ _)); exact BK434.out) hb)
                   have n3_ := Aside0.mk (below_step (by repeat (first | (with_reducible first | exact HB.out | apply below_alloc | apply pw_below_drewN | apply below_drew1 | refine below_set ?_ GE434.out) | exact HB.out)) hb)
                   clear HO_5
                   clear BK434
                   clear HB
                   have HO_5 := n0_
                   have HO452 := n1_
                   have BK434 := n2_
                   have HB := n3_
                   clear n0_ n1_ n2_ n3_
                   clear hb ho37
                   refine hK.out _ _ ⟨(blk_cell BK434.out 0).trans rfl, (blk_cell BK434.out 1).trans rfl, (blk_cell BK434.out 2).trans rfl, (blk_cell BK434.out 3).trans rfl, ((HB.out.cell (World.block_lt_of_cell? w _ hw448_0)).trans hw448_0), ((HB.out.cell (World.block_lt_of_cell? w _ hw448_1)).trans hw448_1), ((HB.out.cell (World.block_lt_of_cell? w _ hw448_2)).trans hw448_2), ((HB.out.cell (World.block_lt_of_cell? w _ hw448_3)).trans hw448_3), ((HB.out.cell (World.block_lt_of_cell? w _ hw449_0)).trans hw449_0), ((HB.out.cell (World.block_lt_of_cell? w _ hw449_1)).trans hw449_1), ((HB.out.cell (World.block_lt_of_cell? w _ hw449_2)).trans hw449_2), ((HB.out.cell (World.block_lt_of_cell? w _ hw449_3)).trans hw449_3)⟩ (fun hHeld => ?_)
                   clear hK K
                   refine norm_ (a' := ?_) ?_ ?_
                   rotate_left
                   ·
                    show Act.put _ (some 50) _ = _
                    simp only [Act.put, List.setIfInBounds_toArray, List.set_cons_zero, List.set_cons_succ, i64_w, i32_w]
                    rfl
                   refine two_ (i := 12) (j := 15) (Ni := some 52) (Nj := some 55) #[true, true, true, true, true, true, true, true, true, true, true, true, true, true, true, false, false, false, false, false] #[true, true, true, true, true, true, true, true, true, true, true, true, false, true, true, true, false, false, false, false] rfl rfl rfl rfl (two_of HT_.out (by kernel_rfl)) (by decide) (by decide) (fun K hK => ?_) (fun K hK => ?_)
                   ·
                    skip
                    refine Kd.R_append_rows_step (Kd.int .i64) (w0 := w) w.heap.size (by rfl) (.tmp 50) (.tmp 51) 26 3 (.int .i64 0) 8 rfl Tryd.underlying26 info3 rfl (by decide) (by omega) v451 y450 l1 _ _ _ (fun k_ => (w.heap.size ≤ k_)) (fun _ => False) rfl rfl ?aO ?aR (fun _ _ h => h) (fun _ h => h.elim) ?aF ?aB ?aS ?aL ?_
                    (case aR => repeat (first | exact (Kd.C_below HR1.out HB.out) | (with_reducible refine Kd.C_alloc ?_ _) | (with_reducible refine Kd.C_drewN ?_ _) | (with_reducible refine Kd.C_drew ?_)))
                    (case aB => exact (by repeat (first | (with_reducible first | exact HB.out | apply below_alloc | apply pw_below_drewN | apply below_drew1 | refine below_set ?_ GE434.out) | exact HB.out)))
                    (case aF => exact (fun k_ hk => (Nat.le_trans (below_size (by repeat (first | (with_reducible first | exact HB.out | apply below_alloc | apply pw_below_drewN | apply below_drew1 | refine below_set ?_ GE434.out) | exact HB.out))) hk)))
                    (case aO => exact (by (with_reducible repeat (first | apply Kd.R_alloc | apply Kd.R_drewN | apply Kd.R_drew)); exact Kd.R_mono HO452.out (fun _ hk => hk.1)))
                    (case aS => exact (below_size (by repeat (first | (with_reducible first | exact HB.out | apply below_alloc | apply pw_below_drewN | apply below_drew1 | refine below_set ?_ GE434.out) | exact HB.out))))
                    (case aL => have := LMc29.out; omega)
                    intro v454 w38 ho hb hg hat
                    rw [← Ny453.out] at ho
                    have n0_ := Aside0.mk (Kd.N_afterv (ok := (fun k_ => (w.heap.size ≤ k_) ∧ k_ ≠ gb434)) (by (with_reducible repeat (first | apply Kd.N_alloc | apply Kd.N_drewN | apply Kd.N_drew)); exact HO_5.out) hg hat)
                    have n1_ := Aside0.mk (blk_grown (g := gb434) (o := .cells #[.int .i64 a0_0, .string a0_1, .int .i64 a0_2, .slice (some ad447) l0_3.length c0_3] 36 (0, 0)) (by (with_reducible repeat (first | refine blk_drewN ?_ _ | refine blk_drew ?_ | refine blk_alloc ?_ _)); exact BK434.out) hg (Kd.R_ne HO452.out BK434.out (by decide)))
                    have n2_ := Aside0.mk (hb)
                    have n3_ := Aside0.mk (ho)
                    clear HO_5
                    clear BK434
                    clear HB
                    clear HO452
                    have HO_5 := n0_
                    have BK434 := n1_
                    have HB := n2_
                    have HO455 := n3_
                    clear n0_ n1_ n2_ n3_
                    clear ho hb hg hat
                    refine hK.out _ _ ⟨(blk_cell BK434.out 0).trans rfl, (blk_cell BK434.out 1).trans rfl, (blk_cell BK434.out 2).trans rfl, (blk_cell BK434.out 3).trans rfl, ((HB.out.cell (World.block_lt_of_cell? w _ hw448_0)).trans hw448_0), ((HB.out.cell (World.block_lt_of_cell? w _ hw448_1)).trans hw448_1), ((HB.out.cell (World.block_lt_of_cell? w _ hw448_2)).trans hw448_2), ((HB.out.cell (World.block_lt_of_cell? w _ hw448_3)).trans hw448_3), ((HB.out.cell (World.block_lt_of_cell? w _ hw449_0)).trans hw449_0), ((HB.out.cell (World.block_lt_of_cell? w _ hw449_1)).trans hw449_1), ((HB.out.cell (World.block_lt_of_cell? w _ hw449_2)).trans hw449_2), ((HB.out.cell (World.block_lt_of_cell? w _ hw449_3)).trans hw449_3)⟩ (fun hHeld => ?_)
                    clear hK K
                    refine norm_ (a' := ?_) ?_ ?_
                    rotate_left
                    ·
                     show Act.put _ (some 52) _ = _
                     simp only [Act.put, List.setIfInBounds_toArray, List.set_cons_zero, List.set_cons_succ, i64_w, i32_w]
                     rfl
                    refine one_ (i := 15) (N := some 55) #[true, true, true, true, true, true, true, true, true, true, true, true, true, true, true, true, false, false, false, false] rfl rfl (one_of HT_.out (by kernel_rfl)) (by decide) (fun K hK => ?_)
                    refine Kd.R_lit_step (Kd.int .i64) _ 3 ?hg (N := 55) ?hd (xs := ([x6_1, x7_2] : List Int)) (inner := [.int .i64 x6_1, .int .i64 x7_2]) (ok := fun _ => True) (okp := fun _ => True) ?hr ?hp (fun _ hk => hk) trivial (Below.refl _ _) (Nat.le_refl _) (by simp) ?_; (case hd => rfl); (case hg => rfl); (case hr => first | (go_simp; done) | (go_simp; rfl)); (case hp => exact (Reps.one (show Kd.M (Kd.int .i64) _ _ _ x6_1 [.int .i64 x6_1] from rfl) (Reps.one (show Kd.M (Kd.int .i64) _ _ _ x7_2 [.int .i64 x7_2] from rfl) (Reps.none _ _))))
                    intro v457 w39 ho40 hb hg_ hnew_
                    clear hg_ hnew_
                    (first | rw [← Ny456.out] at ho40 | (simp only [Int.reduceToNat] at ho40; rw [← Ny456.out] at ho40))
                    have n0_ := Aside0.mk (Kd.N_elder' (by (with_reducible repeat (first | apply Kd.N_alloc | apply Kd.N_drewN | apply Kd.N_drew)); exact HO_5.out) (Kd.R_base ho40) hb)
                    have n1_ := Aside0.mk (Kd.R_elder' (by (with_reducible repeat (first | apply Kd.R_alloc | apply Kd.R_drewN | apply Kd.R_drew)); exact HO455.out) (Kd.R_base ho40) hb)
                    have n2_ := Aside0.mk (Kd.R_lower (Kd.R_new' (Kd.R_newM (M := fun k_ => (w.heap.size ≤ k_)) ho40 (below_size (by repeat (first | (with_reducible first | exact HB.out | apply below_alloc | apply pw_below_drewN | apply below_drew1 | refine below_set ?_ GE434.out) | exact HB.out))) (fun k_ h_ => h_)) (Kd.R_lt (by (with_reducible repeat (first | apply Kd.R_alloc | apply Kd.R_drewN | apply Kd.R_drew)); exact HO455.out))) (below_size (by repeat (first | (with_reducible first | exact HB.out | apply below_alloc | apply pw_below_drewN | apply below_drew1 | refine below_set ?_ GE434.out) | exact HB.out))))
                    have n3_ := Aside0.mk (blk_below (g := gb434) (o := .cells #[.int .i64 a0_0, .string a0_1, .int .i64 a0_2, .slice (some ad447) l0_3.length c0_3] 36 (0, 0)) (by (with_reducible repeat (first | refine blk_drewN ?_ _ | refine blk_drew ?_ | refine blk_alloc ?_ _)); exact BK434.out) hb)
                    have n4_ := Aside0.mk (below_step (by repeat (first | (with_reducible first | exact HB.out | apply below_alloc | apply pw_below_drewN | apply below_drew1 | refine below_set ?_ GE434.out) | exact HB.out)) hb)
                    clear HO_5
                    clear HO455
                    clear BK434
                    clear HB
                    have HO_5 := n0_
                    have HO455 := n1_
                    have HO458 := n2_
                    have BK434 := n3_
                    have HB := n4_
                    clear n0_ n1_ n2_ n3_ n4_
                    clear hb ho40
                    refine hK.out _ _ ⟨(blk_cell BK434.out 0).trans rfl, (blk_cell BK434.out 1).trans rfl, (blk_cell BK434.out 2).trans rfl, (blk_cell BK434.out 3).trans rfl, ((HB.out.cell (World.block_lt_of_cell? w _ hw448_0)).trans hw448_0), ((HB.out.cell (World.block_lt_of_cell? w _ hw448_1)).trans hw448_1), ((HB.out.cell (World.block_lt_of_cell? w _ hw448_2)).trans hw448_2), ((HB.out.cell (World.block_lt_of_cell? w _ hw448_3)).trans hw448_3), ((HB.out.cell (World.block_lt_of_cell? w _ hw449_0)).trans hw449_0), ((HB.out.cell (World.block_lt_of_cell? w _ hw449_1)).trans hw449_1), ((HB.out.cell (World.block_lt_of_cell? w _ hw449_2)).trans hw449_2), ((HB.out.cell (World.block_lt_of_cell? w _ hw449_3)).trans hw449_3)⟩ (fun hHeld => ?_)
                    clear hK K
                    refine norm_ (a' := ?_) ?_ ?_
                    rotate_left
                    ·
                     show Act.put _ (some 55) _ = _
                     simp only [Act.put, List.setIfInBounds_toArray, List.set_cons_zero, List.set_cons_succ, i64_w, i32_w]
                     rfl
                    exact norm_ (by simp only [putAll, Act.put, List.setIfInBounds_toArray, List.set_cons_zero, List.set_cons_succ]) (hCont (v451, v454, v457) _ ⟨hHeld, (by (with_reducible repeat (first | apply Kd.R_alloc | apply Kd.R_drewN | apply Kd.R_drew)); exact HO455.out), (by (with_reducible repeat (first | apply Kd.R_alloc | apply Kd.R_drewN | apply Kd.R_drew)); exact Kd.R_mono HO458.out (fun _ hk => ⟨hk.1.1, hk.2⟩)), (by (with_reducible repeat (first | apply Kd.N_alloc | apply Kd.N_drewN | apply Kd.N_drew)); exact Kd.N_mono HO_5.out (fun _ hk => ⟨hk.1.1.1, ⟨hk.1.2, ⟨hk.2, hk.1.1.2⟩⟩⟩)), (by (with_reducible repeat (first | refine blk_drewN ?_ _ | refine blk_drew ?_ | refine blk_alloc ?_ _)); exact BK434.out), (by repeat (first | (with_reducible first | exact HB.out | apply below_alloc | apply pw_below_drewN | apply below_drew1 | refine below_set ?_ GE434.out) | exact HB.out))⟩)
                   ·
                    skip
                    refine Kd.R_lit_step (Kd.int .i64) _ 3 ?hg (N := 55) ?hd (xs := ([x6_1, x7_2] : List Int)) (inner := [.int .i64 x6_1, .int .i64 x7_2]) (ok := fun _ => True) (okp := fun _ => True) ?hr ?hp (fun _ hk => hk) trivial (Below.refl _ _) (Nat.le_refl _) (by simp) ?_; (case hd => rfl); (case hg => rfl); (case hr => first | (go_simp; done) | (go_simp; rfl)); (case hp => exact (Reps.one (show Kd.M (Kd.int .i64) _ _ _ x6_1 [.int .i64 x6_1] from rfl) (Reps.one (show Kd.M (Kd.int .i64) _ _ _ x7_2 [.int .i64 x7_2] from rfl) (Reps.none _ _))))
                    intro v457 w38 ho39 hb hg_ hnew_
                    clear hg_ hnew_
                    (first | rw [← Ny456.out] at ho39 | (simp only [Int.reduceToNat] at ho39; rw [← Ny456.out] at ho39))
                    have n0_ := Aside0.mk (Kd.N_elder' (by (with_reducible repeat (first | apply Kd.N_alloc | apply Kd.N_drewN | apply Kd.N_drew)); exact HO_5.out) (Kd.R_base ho39) hb)
                    have n1_ := Aside0.mk (Kd.R_elder' (by (with_reducible repeat (first | apply Kd.R_alloc | apply Kd.R_drewN | apply Kd.R_drew)); exact HO452.out) (Kd.R_base ho39) hb)
                    have n2_ := Aside0.mk (Kd.R_lower (Kd.R_new' (Kd.R_newM (M := fun k_ => (w.heap.size ≤ k_)) ho39 (below_size (by repeat (first | (with_reducible first | exact HB.out | apply below_alloc | apply pw_below_drewN | apply below_drew1 | refine below_set ?_ GE434.out) | exact HB.out))) (fun k_ h_ => h_)) (Kd.R_lt (by (with_reducible repeat (first | apply Kd.R_alloc | apply Kd.R_drewN | apply Kd.R_drew)); exact HO452.out))) (below_size (by repeat (first | (with_reducible first | exact HB.out | apply below_alloc | apply pw_below_drewN | apply below_drew1 | refine below_set ?_ GE434.out) | exact HB.out))))
                    have n3_ := Aside0.mk (blk_below (g := gb434) (o := .cells #[.int .i64 a0_0, .string a0_1, .int .i64 a0_2, .slice (some ad447) l0_3.length c0_3] 36 (0, 0)) (by (with_reducible repeat (first | refine blk_drewN ?_ _ | refine blk_drew ?_ | refine blk_alloc ?_ _)); exact BK434.out) hb)
                    have n4_ := Aside0.mk (below_step (by repeat (first | (with_reducible first | exact HB.out | apply below_alloc | apply pw_below_drewN | apply below_drew1 | refine below_set ?_ GE434.out) | exact HB.out)) hb)
                    clear HO_5
                    clear HO452
                    clear BK434
                    clear HB
                    have HO_5 := n0_
                    have HO452 := n1_
                    have HO458 := n2_
                    have BK434 := n3_
                    have HB := n4_
                    clear n0_ n1_ n2_ n3_ n4_
                    clear hb ho39
                    refine hK.out _ _ ⟨(blk_cell BK434.out 0).trans rfl, (blk_cell BK434.out 1).trans rfl, (blk_cell BK434.out 2).trans rfl, (blk_cell BK434.out 3).trans rfl, ((HB.out.cell (World.block_lt_of_cell? w _ hw448_0)).trans hw448_0), ((HB.out.cell (World.block_lt_of_cell? w _ hw448_1)).trans hw448_1), ((HB.out.cell (World.block_lt_of_cell? w _ hw448_2)).trans hw448_2), ((HB.out.cell (World.block_lt_of_cell? w _ hw448_3)).trans hw448_3), ((HB.out.cell (World.block_lt_of_cell? w _ hw449_0)).trans hw449_0), ((HB.out.cell (World.block_lt_of_cell? w _ hw449_1)).trans hw449_1), ((HB.out.cell (World.block_lt_of_cell? w _ hw449_2)).trans hw449_2), ((HB.out.cell (World.block_lt_of_cell? w _ hw449_3)).trans hw449_3)⟩ (fun hHeld => ?_)
                    clear hK K
                    refine norm_ (a' := ?_) ?_ ?_
                    rotate_left
                    ·
                     show Act.put _ (some 55) _ = _
                     simp only [Act.put, List.setIfInBounds_toArray, List.set_cons_zero, List.set_cons_succ, i64_w, i32_w]
                     rfl
                    refine one_ (i := 12) (N := some 52) #[true, true, true, true, true, true, true, true, true, true, true, true, true, true, true, true, false, false, false, false] rfl rfl (one_of HT_.out (by kernel_rfl)) (by decide) (fun K hK => ?_)
                    refine Kd.R_append_rows_step (Kd.int .i64) (w0 := w) w.heap.size (by rfl) (.tmp 50) (.tmp 51) 26 3 (.int .i64 0) 8 rfl Tryd.underlying26 info3 rfl (by decide) (by omega) v451 y450 l1 _ _ _ (fun k_ => (w.heap.size ≤ k_) ∧ some k_ ≠ (v457 : Value).ownBlock) (fun _ => False) rfl rfl ?aO ?aR (fun _ _ h => h) (fun _ h => h.elim) ?aF ?aB ?aS ?aL ?_
                    (case aR => repeat (first | exact (Kd.C_below HR1.out HB.out) | (with_reducible refine Kd.C_alloc ?_ _) | (with_reducible refine Kd.C_drewN ?_ _) | (with_reducible refine Kd.C_drew ?_)))
                    (case aB => exact (by repeat (first | (with_reducible first | exact HB.out | apply below_alloc | apply pw_below_drewN | apply below_drew1 | refine below_set ?_ GE434.out) | exact HB.out)))
                    (case aF => exact (fun k_ hk => ⟨(Nat.le_trans (below_size (by repeat (first | (with_reducible first | exact HB.out | apply below_alloc | apply pw_below_drewN | apply below_drew1 | refine below_set ?_ GE434.out) | exact HB.out))) hk), Kd.fresh' (Kd.R_lt (by (with_reducible repeat (first | apply Kd.R_alloc | apply Kd.R_drewN | apply Kd.R_drew)); exact HO458.out)) k_ hk⟩))
                    (case aO => exact (by (with_reducible repeat (first | apply Kd.R_alloc | apply Kd.R_drewN | apply Kd.R_drew)); exact Kd.R_mono HO452.out (fun _ hk => ⟨hk.1.1, hk.2⟩)))
                    (case aS => exact (below_size (by repeat (first | (with_reducible first | exact HB.out | apply below_alloc | apply pw_below_drewN | apply below_drew1 | refine below_set ?_ GE434.out) | exact HB.out))))
                    (case aL => have := LMc29.out; omega)
                    intro v454 w40 ho hb hg hat
                    rw [← Ny453.out] at ho
                    have n0_ := Aside0.mk (Kd.N_afterv (ok := (fun k_ => (w.heap.size ≤ k_) ∧ some k_ ≠ (v457 : Value).ownBlock ∧ k_ ≠ gb434)) (by (with_reducible repeat (first | apply Kd.N_alloc | apply Kd.N_drewN | apply Kd.N_drew)); exact Kd.N_mono HO_5.out (fun _ hk => ⟨⟨hk.1.1.1, ⟨hk.2, hk.1.1.2⟩⟩, hk.1.2⟩)) hg hat)
                    have n1_ := Aside0.mk (blk_grown (g := gb434) (o := .cells #[.int .i64 a0_0, .string a0_1, .int .i64 a0_2, .slice (some ad447) l0_3.length c0_3] 36 (0, 0)) (by (with_reducible repeat (first | refine blk_drewN ?_ _ | refine blk_drew ?_ | refine blk_alloc ?_ _)); exact BK434.out) hg (Kd.R_ne HO452.out BK434.out (by decide)))
                    have n2_ := Aside0.mk (Kd.R_after (ok := (fun k_ => (w.heap.size ≤ k_))) (by (with_reducible repeat (first | apply Kd.R_alloc | apply Kd.R_drewN | apply Kd.R_drew)); exact Kd.R_mono HO458.out (fun _ hk => ⟨hk.1.1, hk.2⟩)) hg hat)
                    have n3_ := Aside0.mk (hb)
                    have n4_ := Aside0.mk (ho)
                    clear HO_5
                    clear BK434
                    clear HO458
                    clear HB
                    clear HO452
                    have HO_5 := n0_
                    have BK434 := n1_
                    have HO458 := n2_
                    have HB := n3_
                    have HO455 := n4_
                    clear n0_ n1_ n2_ n3_ n4_
                    clear ho hb hg hat
                    refine hK.out _ _ ⟨(blk_cell BK434.out 0).trans rfl, (blk_cell BK434.out 1).trans rfl, (blk_cell BK434.out 2).trans rfl, (blk_cell BK434.out 3).trans rfl, ((HB.out.cell (World.block_lt_of_cell? w _ hw448_0)).trans hw448_0), ((HB.out.cell (World.block_lt_of_cell? w _ hw448_1)).trans hw448_1), ((HB.out.cell (World.block_lt_of_cell? w _ hw448_2)).trans hw448_2), ((HB.out.cell (World.block_lt_of_cell? w _ hw448_3)).trans hw448_3), ((HB.out.cell (World.block_lt_of_cell? w _ hw449_0)).trans hw449_0), ((HB.out.cell (World.block_lt_of_cell? w _ hw449_1)).trans hw449_1), ((HB.out.cell (World.block_lt_of_cell? w _ hw449_2)).trans hw449_2), ((HB.out.cell (World.block_lt_of_cell? w _ hw449_3)).trans hw449_3)⟩ (fun hHeld => ?_)
                    clear hK K
                    refine norm_ (a' := ?_) ?_ ?_
                    rotate_left
                    ·
                     show Act.put _ (some 52) _ = _
                     simp only [Act.put, List.setIfInBounds_toArray, List.set_cons_zero, List.set_cons_succ, i64_w, i32_w]
                     rfl
                    exact norm_ (by simp only [putAll, Act.put, List.setIfInBounds_toArray, List.set_cons_zero, List.set_cons_succ]) (hCont (v451, v454, v457) _ ⟨hHeld, (by (with_reducible repeat (first | apply Kd.R_alloc | apply Kd.R_drewN | apply Kd.R_drew)); exact HO455.out), (by (with_reducible repeat (first | apply Kd.R_alloc | apply Kd.R_drewN | apply Kd.R_drew)); exact HO458.out), (by (with_reducible repeat (first | apply Kd.N_alloc | apply Kd.N_drewN | apply Kd.N_drew)); exact Kd.N_mono HO_5.out (fun _ hk => ⟨hk.1.1, ⟨hk.2, ⟨hk.1.2.1, hk.1.2.2⟩⟩⟩)), (by (with_reducible repeat (first | refine blk_drewN ?_ _ | refine blk_drew ?_ | refine blk_alloc ?_ _)); exact BK434.out), (by repeat (first | (with_reducible first | exact HB.out | apply below_alloc | apply pw_below_drewN | apply below_drew1 | refine below_set ?_ GE434.out) | exact HB.out))⟩)
                  ·
                   skip
                   refine Kd.R_lit_step (Kd.int .i64) _ 3 ?hg (N := 55) ?hd (xs := ([x6_1, x7_2] : List Int)) (inner := [.int .i64 x6_1, .int .i64 x7_2]) (ok := fun _ => True) (okp := fun _ => True) ?hr ?hp (fun _ hk => hk) trivial (Below.refl _ _) (Nat.le_refl _) (by simp) ?_; (case hd => rfl); (case hg => rfl); (case hr => first | (go_simp; done) | (go_simp; rfl)); (case hp => exact (Reps.one (show Kd.M (Kd.int .i64) _ _ _ x6_1 [.int .i64 x6_1] from rfl) (Reps.one (show Kd.M (Kd.int .i64) _ _ _ x7_2 [.int .i64 x7_2] from rfl) (Reps.none _ _))))
                   intro v457 w36 ho37 hb hg_ hnew_
                   clear hg_ hnew_
                   (first | rw [← Ny456.out] at ho37 | (simp only [Int.reduceToNat] at ho37; rw [← Ny456.out] at ho37))
                   have n0_ := Aside0.mk (Kd.N_elder' (by (with_reducible repeat (first | apply Kd.N_alloc | apply Kd.N_drewN | apply Kd.N_drew)); exact HO_5.out) (Kd.R_base ho37) hb)
                   have n1_ := Aside0.mk (Kd.R_lower (Kd.R_newM (M := fun k_ => (w.heap.size ≤ k_)) ho37 (below_size (by repeat (first | (with_reducible first | exact HB.out | apply below_alloc | apply pw_below_drewN | apply below_drew1 | refine below_set ?_ GE434.out) | exact HB.out))) (fun k_ h_ => h_)) (below_size (by repeat (first | (with_reducible first | exact HB.out | apply below_alloc | apply pw_below_drewN | apply below_drew1 | refine below_set ?_ GE434.out) | exact HB.out))))
                   have n2_ := Aside0.mk (blk_below (g := gb434) (o := .cells #[.int .i64 a0_0, .string a0_1, .int .i64 a0_2, .slice (some ad447) l0_3.length c0_3] 36 (0, 0)) (by (with_reducible repeat (first | refine blk_drewN ?_ _ | refine blk_drew ?_ | refine blk_alloc ?_ _)); exact BK434.out) hb)
                   have n3_ := Aside0.mk (below_step (by repeat (first | (with_reducible first | exact HB.out | apply below_alloc | apply pw_below_drewN | apply below_drew1 | refine below_set ?_ GE434.out) | exact HB.out)) hb)
                   clear HO_5
                   clear BK434
                   clear HB
                   have HO_5 := n0_
                   have HO458 := n1_
                   have BK434 := n2_
                   have HB := n3_
                   clear n0_ n1_ n2_ n3_
                   clear hb ho37
                   refine hK.out _ _ ⟨(blk_cell BK434.out 0).trans rfl, (blk_cell BK434.out 1).trans rfl, (blk_cell BK434.out 2).trans rfl, (blk_cell BK434.out 3).trans rfl, ((HB.out.cell (World.block_lt_of_cell? w _ hw448_0)).trans hw448_0), ((HB.out.cell (World.block_lt_of_cell? w _ hw448_1)).trans hw448_1), ((HB.out.cell (World.block_lt_of_cell? w _ hw448_2)).trans hw448_2), ((HB.out.cell (World.block_lt_of_cell? w _ hw448_3)).trans hw448_3), ((HB.out.cell (World.block_lt_of_cell? w _ hw449_0)).trans hw449_0), ((HB.out.cell (World.block_lt_of_cell? w _ hw449_1)).trans hw449_1), ((HB.out.cell (World.block_lt_of_cell? w _ hw449_2)).trans hw449_2), ((HB.out.cell (World.block_lt_of_cell? w _ hw449_3)).trans hw449_3)⟩ (fun hHeld => ?_)
                   clear hK K
                   refine norm_ (a' := ?_) ?_ ?_
                   rotate_left
                   ·
                    show Act.put _ (some 55) _ = _
                    simp only [Act.put, List.setIfInBounds_toArray, List.set_cons_zero, List.set_cons_succ, i64_w, i32_w]
                    rfl
                   refine one_ (i := 10) (N := some 50) #[true, true, true, true, true, true, true, true, true, true, true, true, false, true, true, true, false, false, false, false] rfl rfl (one_of HT_.out (by kernel_rfl)) (by decide) (fun K hK => ?_)
                   refine Kd.R_lit_step (Kd.int .i64) _ 3 ?hg (N := 50) ?hd (xs := ([] : List Int)) (inner := []) (ok := fun _ => True) (okp := fun _ => True) ?hr ?hp (fun _ hk => hk) trivial (Below.refl _ _) (Nat.le_refl _) (by simp) ?_; (case hd => rfl); (case hg => rfl); (case hr => first | (go_simp; done) | (go_simp; rfl)); (case hp => exact (Reps.none _ _))
                   intro v451 w38 ho39 hb hg_ hnew_
                   clear hg_ hnew_
                   (first | rw [← Ny450.out] at ho39 | (simp only [Int.reduceToNat] at ho39; rw [← Ny450.out] at ho39))
                   have n0_ := Aside0.mk (Kd.N_elder' (by (with_reducible repeat (first | apply Kd.N_alloc | apply Kd.N_drewN | apply Kd.N_drew)); exact HO_5.out) (Kd.R_base ho39) hb)
                   have n1_ := Aside0.mk (Kd.R_elder' (by (with_reducible repeat (first | apply Kd.R_alloc | apply Kd.R_drewN | apply Kd.R_drew)); exact HO458.out) (Kd.R_base ho39) hb)
                   have n2_ := Aside0.mk (Kd.R_lower (Kd.R_new' (Kd.R_newM (M := fun k_ => (w.heap.size ≤ k_)) ho39 (below_size (by repeat (first | (with_reducible first | exact HB.out | apply below_alloc | apply pw_below_drewN | apply below_drew1 | refine below_set ?_ GE434.out) | exact HB.out))) (fun k_ h_ => h_)) (Kd.R_lt (by (with_reducible repeat (first | apply Kd.R_alloc | apply Kd.R_drewN | apply Kd.R_drew)); exact HO458.out))) (below_size (by repeat (first | (with_reducible first | exact HB.out | apply below_alloc | apply pw_below_drewN | apply below_drew1 | refine below_set ?_ GE434.out) | exact HB.out))))
                   have n3_ := Aside0.mk (blk_below (g := gb434) (o := .cells #[.int .i64 a0_0, .string a0_1, .int .i64 a0_2, .slice (some ad447) l0_3.length c0_3] 36 (0, 0)) (by (with_reducible repeat (first | refine blk_drewN ?_ _ | refine blk_drew ?_ | refine blk_alloc ?_ _)); exact BK434.out) hb)
                   have n4_ := Aside0.mk (below_step (by repeat (first | (with_reducible first | exact HB.out | apply below_alloc | apply pw_below_drewN | apply below_drew1 | refine below_set ?_ GE434.out) | exact HB.out)) hb)
                   clear HO_5
                   clear HO458
                   clear BK434
                   clear HB
                   have HO_5 := n0_
                   have HO458 := n1_
                   have HO452 := n2_
                   have BK434 := n3_
                   have HB := n4_
                   clear n0_ n1_ n2_ n3_ n4_
                   clear hb ho39
                   refine hK.out _ _ ⟨(blk_cell BK434.out 0).trans rfl, (blk_cell BK434.out 1).trans rfl, (blk_cell BK434.out 2).trans rfl, (blk_cell BK434.out 3).trans rfl, ((HB.out.cell (World.block_lt_of_cell? w _ hw448_0)).trans hw448_0), ((HB.out.cell (World.block_lt_of_cell? w _ hw448_1)).trans hw448_1), ((HB.out.cell (World.block_lt_of_cell? w _ hw448_2)).trans hw448_2), ((HB.out.cell (World.block_lt_of_cell? w _ hw448_3)).trans hw448_3), ((HB.out.cell (World.block_lt_of_cell? w _ hw449_0)).trans hw449_0), ((HB.out.cell (World.block_lt_of_cell? w _ hw449_1)).trans hw449_1), ((HB.out.cell (World.block_lt_of_cell? w _ hw449_2)).trans hw449_2), ((HB.out.cell (World.block_lt_of_cell? w _ hw449_3)).trans hw449_3)⟩ (fun hHeld => ?_)
                   clear hK K
                   refine norm_ (a' := ?_) ?_ ?_
                   rotate_left
                   ·
                    show Act.put _ (some 50) _ = _
                    simp only [Act.put, List.setIfInBounds_toArray, List.set_cons_zero, List.set_cons_succ, i64_w, i32_w]
                    rfl
                   refine one_ (i := 12) (N := some 52) #[true, true, true, true, true, true, true, true, true, true, true, true, true, true, true, true, false, false, false, false] rfl rfl (one_of HT_.out (by kernel_rfl)) (by decide) (fun K hK => ?_)
                   refine Kd.R_append_rows_step (Kd.int .i64) (w0 := w) w.heap.size (by rfl) (.tmp 50) (.tmp 51) 26 3 (.int .i64 0) 8 rfl Tryd.underlying26 info3 rfl (by decide) (by omega) v451 y450 l1 _ _ _ (fun k_ => (w.heap.size ≤ k_) ∧ some k_ ≠ (v457 : Value).ownBlock) (fun _ => False) rfl rfl ?aO ?aR (fun _ _ h => h) (fun _ h => h.elim) ?aF ?aB ?aS ?aL ?_
                   (case aR => repeat (first | exact (Kd.C_below HR1.out HB.out) | (with_reducible refine Kd.C_alloc ?_ _) | (with_reducible refine Kd.C_drewN ?_ _) | (with_reducible refine Kd.C_drew ?_)))
                   (case aB => exact (by repeat (first | (with_reducible first | exact HB.out | apply below_alloc | apply pw_below_drewN | apply below_drew1 | refine below_set ?_ GE434.out) | exact HB.out)))
                   (case aF => exact (fun k_ hk => ⟨(Nat.le_trans (below_size (by repeat (first | (with_reducible first | exact HB.out | apply below_alloc | apply pw_below_drewN | apply below_drew1 | refine below_set ?_ GE434.out) | exact HB.out))) hk), Kd.fresh' (Kd.R_lt (by (with_reducible repeat (first | apply Kd.R_alloc | apply Kd.R_drewN | apply Kd.R_drew)); exact HO458.out)) k_ hk⟩))
                   (case aO => exact (by (with_reducible repeat (first | apply Kd.R_alloc | apply Kd.R_drewN | apply Kd.R_drew)); exact Kd.R_mono HO452.out (fun _ hk => ⟨hk.1.1, hk.2⟩)))
                   (case aS => exact (below_size (by repeat (first | (with_reducible first | exact HB.out | apply below_alloc | apply pw_below_drewN | apply below_drew1 | refine below_set ?_ GE434.out) | exact HB.out))))
                   (case aL => have := LMc29.out; omega)
                   intro v454 w40 ho hb hg hat
                   rw [← Ny453.out] at ho
                   have n0_ := Aside0.mk (Kd.N_afterv (ok := (fun k_ => (w.heap.size ≤ k_) ∧ some k_ ≠ (v457 : Value).ownBlock ∧ k_ ≠ gb434)) (by (with_reducible repeat (first | apply Kd.N_alloc | apply Kd.N_drewN | apply Kd.N_drew)); exact Kd.N_mono HO_5.out (fun _ hk => ⟨⟨hk.1.1.1, ⟨hk.1.2, hk.1.1.2⟩⟩, hk.2⟩)) hg hat)
                   have n1_ := Aside0.mk (blk_grown (g := gb434) (o := .cells #[.int .i64 a0_0, .string a0_1, .int .i64 a0_2, .slice (some ad447) l0_3.length c0_3] 36 (0, 0)) (by (with_reducible repeat (first | refine blk_drewN ?_ _ | refine blk_drew ?_ | refine blk_alloc ?_ _)); exact BK434.out) hg (Kd.R_ne HO452.out BK434.out (by decide)))
                   have n2_ := Aside0.mk (Kd.R_after (ok := (fun k_ => (w.heap.size ≤ k_))) (by (with_reducible repeat (first | apply Kd.R_alloc | apply Kd.R_drewN | apply Kd.R_drew)); exact Kd.R_mono HO458.out (fun _ hk => ⟨hk.1.1, hk.2⟩)) hg hat)
                   have n3_ := Aside0.mk (hb)
                   have n4_ := Aside0.mk (ho)
                   clear HO_5
                   clear BK434
                   clear HO458
                   clear HB
                   clear HO452
                   have HO_5 := n0_
                   have BK434 := n1_
                   have HO458 := n2_
                   have HB := n3_
                   have HO455 := n4_
                   clear n0_ n1_ n2_ n3_ n4_
                   clear ho hb hg hat
                   refine hK.out _ _ ⟨(blk_cell BK434.out 0).trans rfl, (blk_cell BK434.out 1).trans rfl, (blk_cell BK434.out 2).trans rfl, (blk_cell BK434.out 3).trans rfl, ((HB.out.cell (World.block_lt_of_cell? w _ hw448_0)).trans hw448_0), ((HB.out.cell (World.block_lt_of_cell? w _ hw448_1)).trans hw448_1), ((HB.out.cell (World.block_lt_of_cell? w _ hw448_2)).trans hw448_2), ((HB.out.cell (World.block_lt_of_cell? w _ hw448_3)).trans hw448_3), ((HB.out.cell (World.block_lt_of_cell? w _ hw449_0)).trans hw449_0), ((HB.out.cell (World.block_lt_of_cell? w _ hw449_1)).trans hw449_1), ((HB.out.cell (World.block_lt_of_cell? w _ hw449_2)).trans hw449_2), ((HB.out.cell (World.block_lt_of_cell? w _ hw449_3)).trans hw449_3)⟩ (fun hHeld => ?_)
                   clear hK K
                   refine norm_ (a' := ?_) ?_ ?_
                   rotate_left
                   ·
                    show Act.put _ (some 52) _ = _
                    simp only [Act.put, List.setIfInBounds_toArray, List.set_cons_zero, List.set_cons_succ, i64_w, i32_w]
                    rfl
                   exact norm_ (by simp only [putAll, Act.put, List.setIfInBounds_toArray, List.set_cons_zero, List.set_cons_succ]) (hCont (v451, v454, v457) _ ⟨hHeld, (by (with_reducible repeat (first | apply Kd.R_alloc | apply Kd.R_drewN | apply Kd.R_drew)); exact HO455.out), (by (with_reducible repeat (first | apply Kd.R_alloc | apply Kd.R_drewN | apply Kd.R_drew)); exact HO458.out), (by (with_reducible repeat (first | apply Kd.N_alloc | apply Kd.N_drewN | apply Kd.N_drew)); exact Kd.N_mono HO_5.out (fun _ hk => ⟨hk.1.1, ⟨hk.2, ⟨hk.1.2.1, hk.1.2.2⟩⟩⟩)), (by (with_reducible repeat (first | refine blk_drewN ?_ _ | refine blk_drew ?_ | refine blk_alloc ?_ _)); exact BK434.out), (by repeat (first | (with_reducible first | exact HB.out | apply below_alloc | apply pw_below_drewN | apply below_drew1 | refine below_set ?_ GE434.out) | exact HB.out))⟩)
                 rintro ⟨v451, v454, v457⟩ w41 ⟨hS_, h0_, h1_, h2_, h3_, h4_⟩
                 have n0_ : Aside0 (Kd.R (Kd.int .i64) 3 w41 w.heap.size (fun k_ => (w.heap.size ≤ k_) ∧ some k_ ≠ (v457 : Value).ownBlock) v454 y453) := ⟨h0_⟩
                 have n1_ : Aside0 (Kd.R (Kd.int .i64) 3 w41 w.heap.size (fun k_ => (w.heap.size ≤ k_) ∧ some k_ ≠ (v454 : Value).ownBlock) v457 y456) := ⟨h1_⟩
                 have n2_ : Aside0 (Kd.N (Kd.slice 3 (Kd.int .i64)) 26 w41 w.heap.size (fun k_ => (w.heap.size ≤ k_) ∧ some k_ ≠ (v454 : Value).ownBlock ∧ some k_ ≠ (v457 : Value).ownBlock ∧ k_ ≠ gb434) (.slice Ao34 x5_2.length co34) x5_2) := ⟨h2_⟩
                 have n3_ : Aside0 (w41.heap[gb434]? = some (.cells #[.int .i64 a0_0, .string a0_1, .int .i64 a0_2, .slice (some ad447) l0_3.length c0_3] 36 (0, 0))) := ⟨h3_⟩
                 have n4_ : Aside0 (Below w.heap.size w w41) := ⟨h4_⟩
                 clear HO_5
                 clear BK434
                 clear HB
                 clear h0_ h1_ h2_ h3_ h4_
                 have HO455 := n0_
                 have HO458 := n1_
                 have HO_5 := n2_
                 have BK434 := n3_
                 have HB := n4_
                 clear n0_ n1_ n2_ n3_ n4_
                 have hHeld : w41.cell? ⟨gb434, 0, none⟩ = some (.int .i64 a0_0) ∧ w41.cell? ⟨gb434, 1, none⟩ = some (.string a0_1) ∧ w41.cell? ⟨gb434, 2, none⟩ = some (.int .i64 a0_2) ∧ w41.cell? ⟨gb434, 3, none⟩ = some (.slice (some ad447) l0_3.length c0_3) ∧ w41.cell? (ad447.add ((x6_1).toNat * 4)) = some (.int .i64 ((rd_T36 l0_3 x6_1).f0)) ∧ w41.cell? ⟨(ad447.add ((x6_1).toNat * 4)).block, (ad447.add ((x6_1).toNat * 4)).off + 1, none⟩ = some (.string ((rd_T36 l0_3 x6_1).f1)) ∧ w41.cell? ⟨(ad447.add ((x6_1).toNat * 4)).block, (ad447.add ((x6_1).toNat * 4)).off + 2, none⟩ = some (.int .i64 ((rd_T36 l0_3 x6_1).f2)) ∧ w41.cell? ⟨(ad447.add ((x6_1).toNat * 4)).block, (ad447.add ((x6_1).toNat * 4)).off + 3, none⟩ = some (.slice (some ad449) ((rd_T36 l0_3 x6_1).f3).length c448_3) ∧ w41.cell? (ad449.add ((x7_2).toNat * 4)) = some (.int .i64 ((rd_T36 ((rd_T36 l0_3 x6_1).f3) x7_2).f0)) ∧ w41.cell? ⟨(ad449.add ((x7_2).toNat * 4)).block, (ad449.add ((x7_2).toNat * 4)).off + 1, none⟩ = some (.string ((rd_T36 ((rd_T36 l0_3 x6_1).f3) x7_2).f1)) ∧ w41.cell? ⟨(ad449.add ((x7_2).toNat * 4)).block, (ad449.add ((x7_2).toNat * 4)).off + 2, none⟩ = some (.int .i64 ((rd_T36 ((rd_T36 l0_3 x6_1).f3) x7_2).f2)) ∧ w41.cell? ⟨(ad449.add ((x7_2).toNat * 4)).block, (ad449.add ((x7_2).toNat * 4)).off + 3, none⟩ = some (.slice A449_3 ((rd_T36 ((rd_T36 l0_3 x6_1).f3) x7_2).f3).length c449_3) := hS_
                 obtain ⟨Ao43, co43, eo43⟩ := Kd.R_slice HO458.out
                 (first | subst eo43 | (injection eo43 with f1_ f2_ f3_; have f4_ := f1_.symm; have f5_ := f3_.symm; clear f1_ f2_ f3_; subst f4_; subst f5_))
                 refine norm_ (a' := ?_) ?_ ?_
                 rotate_left
                 ·
                  simp only [putAll, Act.put, List.setIfInBounds_toArray, List.set_cons_zero, List.set_cons_succ]
                  rfl
                 refine one_ (i := 16) (N := some 56) #[true, true, true, true, true, true, true, true, true, true, true, true, true, true, true, true, true, false, false, false] rfl rfl (one_of HT_.out (by kernel_rfl)) (by decide) (fun K hK => ?_)
                 refine Kd.R_append_rows_step (Kd.int .i64) (w0 := w) w.heap.size (by rfl) (.tmp 52) (.tmp 55) 26 3 (.int .i64 0) 8 rfl Tryd.underlying26 info3 rfl (by decide) (by omega) v454 y453 y456 _ _ _ (fun k_ => (w.heap.size ≤ k_) ∧ some k_ ≠ (.slice Ao43 y456.length co43 : Value).ownBlock) (fun _ => False) rfl rfl ?aO ?aR (fun _ _ h => h) (fun _ h => h.elim) ?aF ?aB ?aS ?aL ?_
                 (case aR => repeat (first | exact (Kd.R_reads' HO458.out).2.2 | (with_reducible refine Kd.C_alloc ?_ _) | (with_reducible refine Kd.C_drewN ?_ _) | (with_reducible refine Kd.C_drew ?_)))
                 (case aB => exact (by repeat (first | (with_reducible first | exact HB.out | apply below_alloc | apply pw_below_drewN | apply below_drew1 | refine below_set ?_ GE434.out) | exact HB.out)))
                 (case aF => exact (fun k_ hk => ⟨(Nat.le_trans (below_size (by repeat (first | (with_reducible first | exact HB.out | apply below_alloc | apply pw_below_drewN | apply below_drew1 | refine below_set ?_ GE434.out) | exact HB.out))) hk), Kd.fresh' (Kd.R_lt (by (with_reducible repeat (first | apply Kd.R_alloc | apply Kd.R_drewN | apply Kd.R_drew)); exact HO458.out)) k_ hk⟩))
                 (case aO => exact (by (with_reducible repeat (first | apply Kd.R_alloc | apply Kd.R_drewN | apply Kd.R_drew)); exact HO455.out))
                 (case aS => exact (below_size (by repeat (first | (with_reducible first | exact HB.out | apply below_alloc | apply pw_below_drewN | apply below_drew1 | refine below_set ?_ GE434.out) | exact HB.out))))
                 (case aL => have := LMc30.out; omega)
                 intro v460 w42 ho hb hg hat
                 rw [← Ny459.out] at ho
                 have n0_ := Aside0.mk (Kd.N_afterv (ok := (fun k_ => (w.heap.size ≤ k_) ∧ some k_ ≠ (.slice Ao43 y456.length co43 : Value).ownBlock ∧ k_ ≠ gb434)) (by (with_reducible repeat (first | apply Kd.N_alloc | apply Kd.N_drewN | apply Kd.N_drew)); exact Kd.N_mono HO_5.out (fun _ hk => ⟨⟨hk.1, ⟨hk.2.2.1, hk.2.2.2⟩⟩, hk.2.1⟩)) hg hat)
                 have n1_ := Aside0.mk (blk_grown (g := gb434) (o := .cells #[.int .i64 a0_0, .string a0_1, .int .i64 a0_2, .slice (some ad447) l0_3.length c0_3] 36 (0, 0)) (by (with_reducible repeat (first | refine blk_drewN ?_ _ | refine blk_drew ?_ | refine blk_alloc ?_ _)); exact BK434.out) hg (Kd.R_ne HO455.out BK434.out (by decide)))
                 have n2_ := Aside0.mk (Kd.R_after (ok := (fun k_ => (w.heap.size ≤ k_))) (by (with_reducible repeat (first | apply Kd.R_alloc | apply Kd.R_drewN | apply Kd.R_drew)); exact HO458.out) hg hat)
                 have n3_ := Aside0.mk (hb)
                 have n4_ := Aside0.mk (ho)
                 clear HO_5
                 clear BK434
                 clear HO458
                 clear HB
                 clear HO455
                 have HO_5 := n0_
                 have BK434 := n1_
                 have HO458 := n2_
                 have HB := n3_
                 have HO461 := n4_
                 clear n0_ n1_ n2_ n3_ n4_
                 clear ho hb hg hat
                 obtain ⟨Ao44, co44, eo44⟩ := Kd.R_slice HO461.out
                 (first | subst eo44 | (injection eo44 with f1_ f2_ f3_; have f4_ := f1_.symm; have f5_ := f3_.symm; clear f1_ f2_ f3_; subst f4_; subst f5_))
                 refine hK.out _ _ ⟨(blk_cell BK434.out 0).trans rfl, (blk_cell BK434.out 1).trans rfl, (blk_cell BK434.out 2).trans rfl, (blk_cell BK434.out 3).trans rfl, ((HB.out.cell (World.block_lt_of_cell? w _ hw448_0)).trans hw448_0), ((HB.out.cell (World.block_lt_of_cell? w _ hw448_1)).trans hw448_1), ((HB.out.cell (World.block_lt_of_cell? w _ hw448_2)).trans hw448_2), ((HB.out.cell (World.block_lt_of_cell? w _ hw448_3)).trans hw448_3), ((HB.out.cell (World.block_lt_of_cell? w _ hw449_0)).trans hw449_0), ((HB.out.cell (World.block_lt_of_cell? w _ hw449_1)).trans hw449_1), ((HB.out.cell (World.block_lt_of_cell? w _ hw449_2)).trans hw449_2), ((HB.out.cell (World.block_lt_of_cell? w _ hw449_3)).trans hw449_3)⟩ (fun hHeld => ?_)
                 clear hK K
                 refine norm_ (a' := ?_) ?_ ?_
                 rotate_left
                 ·
                  show Act.put _ (some 56) _ = _
                  simp only [Act.put, List.setIfInBounds_toArray, List.set_cons_zero, List.set_cons_succ, i64_w, i32_w]
                  rfl
                 refine one_ (i := 17) (N := some 57) #[true, true, true, true, true, true, true, true, true, true, true, true, true, true, true, true, true, true, false, false] rfl rfl (one_of HT_.out (by kernel_rfl)) (by decide) (fun K hK => ?_)
                 refine goes_ Tryd.func75 (by kernel_rfl) rfl #[.agg #[.int .i64 ((rd_T36 ((rd_T36 l0_3 x6_1).f3) x7_2).f0), .string ((rd_T36 ((rd_T36 l0_3 x6_1).f3) x7_2).f1), .int .i64 ((rd_T36 ((rd_T36 l0_3 x6_1).f3) x7_2).f2), .slice A449_3 ((rd_T36 ((rd_T36 l0_3 x6_1).f3) x7_2).f3).length c449_3], .slice Ao44 y459.length co44] (by rfl) rfl rfl (by (try simp only [List.map_toArray, List.map_cons, List.map_nil]); first | done | rfl | (simp only [List.length_drop, List.length_take]; rfl)) ?_
                 with_reducible refine (ih k2 (by have := HK1.out; have := HK2.out; omega) ((rd_T36 ((rd_T36 l0_3 x6_1).f3) x7_2).f0) ((rd_T36 ((rd_T36 l0_3 x6_1).f3) x7_2).f1) ((rd_T36 ((rd_T36 l0_3 x6_1).f3) x7_2).f2) _ _ ((rd_T36 ((rd_T36 l0_3 x6_1).f3) x7_2).f3) _ _ y459 t462 _ ?side1 ?side2 ?side3 ?side4 A31.out).mono ?_
                 (case side1 => repeat (first | exact (Kd.C_below HR449_3.out HB.out) | (with_reducible refine Kd.C_alloc ?_ _) | (with_reducible refine Kd.C_drewN ?_ _) | (with_reducible refine Kd.C_drew ?_)))
                 (case side2 => exact HC449_3.out)
                 (case side3 => repeat (first | exact (Kd.R_reads' HO461.out).2.2 | (with_reducible refine Kd.C_alloc ?_ _) | (with_reducible refine Kd.C_drewN ?_ _) | (with_reducible refine Kd.C_drew ?_)))
                 (case side4 => exact (Kd.R_reads' HO461.out).2.1)
                 rintro e w45 ⟨v463, rfl, ho0, hb⟩
                 refine ⟨_, rfl, ?_⟩
                 have n0_ := Aside0.mk (Kd.N_elder' (by (with_reducible repeat (first | apply Kd.N_alloc | apply Kd.N_drewN | apply Kd.N_drew)); exact HO_5.out) (Kd.N_base ho0) hb)
                 have n1_ := Aside0.mk (Kd.R_below (by (with_reducible repeat (first | apply Kd.R_alloc | apply Kd.R_drewN | apply Kd.R_drew)); exact HO458.out) hb)
                 have n2_ := Aside0.mk (Kd.R_below (by (with_reducible repeat (first | apply Kd.R_alloc | apply Kd.R_drewN | apply Kd.R_drew)); exact HO461.out) hb)
                 have n3_ := Aside0.mk (Kd.N_lower (Kd.N_mono (ok' := fun k_ => (w.heap.size ≤ k_) ∧ some k_ ≠ (.slice Ao34 x5_2.length co34 : Value).ownBlock ∧ some k_ ≠ (.slice Ao43 y456.length co43 : Value).ownBlock ∧ some k_ ≠ (.slice Ao44 y459.length co44 : Value).ownBlock ∧ k_ ≠ gb434) ho0 (fun k_ hk_ => ⟨(Nat.le_trans (below_size (by repeat (first | (with_reducible first | exact HB.out | apply below_alloc | apply pw_below_drewN | apply below_drew1 | refine below_set ?_ GE434.out) | exact HB.out))) hk_), (Kd.fresh' (Kd.N_lt (by (with_reducible repeat (first | apply Kd.N_alloc | apply Kd.N_drewN | apply Kd.N_drew)); exact HO_5.out)) k_ hk_), (Kd.fresh' (Kd.R_lt (by (with_reducible repeat (first | apply Kd.R_alloc | apply Kd.R_drewN | apply Kd.R_drew)); exact HO458.out)) k_ hk_), (Kd.fresh' (Kd.R_lt (by (with_reducible repeat (first | apply Kd.R_alloc | apply Kd.R_drewN | apply Kd.R_drew)); exact HO461.out)) k_ hk_), (Kd.freshB (g := gb434) (o := .cells #[.int .i64 a0_0, .string a0_1, .int .i64 a0_2, .slice (some ad447) l0_3.length c0_3] 36 (0, 0)) (by (with_reducible repeat (first | refine blk_drewN ?_ _ | refine blk_drew ?_ | refine blk_alloc ?_ _)); exact BK434.out) k_ hk_)⟩)) (below_size (by repeat (first | (with_reducible first | exact HB.out | apply below_alloc | apply pw_below_drewN | apply below_drew1 | refine below_set ?_ GE434.out) | exact HB.out))))
                 have n4_ := Aside0.mk (blk_below (g := gb434) (o := .cells #[.int .i64 a0_0, .string a0_1, .int .i64 a0_2, .slice (some ad447) l0_3.length c0_3] 36 (0, 0)) (by (with_reducible repeat (first | refine blk_drewN ?_ _ | refine blk_drew ?_ | refine blk_alloc ?_ _)); exact BK434.out) hb)
                 have n5_ := Aside0.mk (below_step (by repeat (first | (with_reducible first | exact HB.out | apply below_alloc | apply pw_below_drewN | apply below_drew1 | refine below_set ?_ GE434.out) | exact HB.out)) hb)
                 clear HO_5
                 clear HO458
                 clear HO461
                 clear BK434
                 clear HB
                 have HO_5 := n0_
                 have HO458 := n1_
                 have HO461 := n2_
                 have HO464 := n3_
                 have BK434 := n4_
                 have HB := n5_
                 clear n0_ n1_ n2_ n3_ n4_ n5_
                 (try clear hb)
                 (try clear hb2)
                 (try clear hk)
                 (try clear hi)
                 (try clear ho0)
                 obtain ⟨Ao47, co47, eo47⟩ := Kd.N_slice HO464.out
                 (first | subst eo47 | (injection eo47 with f1_ f2_ f3_; have f4_ := f1_.symm; have f5_ := f3_.symm; clear f1_ f2_ f3_; subst f4_; subst f5_))
                 refine hK.out _ _ ⟨(blk_cell BK434.out 0).trans rfl, (blk_cell BK434.out 1).trans rfl, (blk_cell BK434.out 2).trans rfl, (blk_cell BK434.out 3).trans rfl, ((HB.out.cell (World.block_lt_of_cell? w _ hw448_0)).trans hw448_0), ((HB.out.cell (World.block_lt_of_cell? w _ hw448_1)).trans hw448_1), ((HB.out.cell (World.block_lt_of_cell? w _ hw448_2)).trans hw448_2), ((HB.out.cell (World.block_lt_of_cell? w _ hw448_3)).trans hw448_3), ((HB.out.cell (World.block_lt_of_cell? w _ hw449_0)).trans hw449_0), ((HB.out.cell (World.block_lt_of_cell? w _ hw449_1)).trans hw449_1), ((HB.out.cell (World.block_lt_of_cell? w _ hw449_2)).trans hw449_2), ((HB.out.cell (World.block_lt_of_cell? w _ hw449_3)).trans hw449_3)⟩ (fun hHeld => ?_)
                 clear hK K
                 refine norm_ (a' := ?_) ?_ ?_
                 rotate_left
                 ·
                  show Act.put _ (some 57) _ = _
                  simp only [Act.put, List.setIfInBounds_toArray, List.set_cons_zero, List.set_cons_succ, i64_w, i32_w]
                  rfl
                 refine one_ (i := 18) (N := some 58) #[true, true, true, true, true, true, true, true, true, true, true, true, true, true, true, true, true, true, true, false] rfl rfl (one_of HT_.out (by kernel_rfl)) (by decide) (fun K hK => ?_)
                 refine Kd.N_append_rows_step (Kd.slice 3 (Kd.int .i64)) (w0 := w) w.heap.size (by rfl) (.tmp 40) (.tmp 57) 46 26 (.slice none 0 0) 24 rfl Tryd.underlying46 info26 rfl (by decide) (by omega) (.slice Ao34 x5_2.length co34) x5_2 t462 _ _ _ (fun k_ => (w.heap.size ≤ k_) ∧ some k_ ≠ (.slice Ao43 y456.length co43 : Value).ownBlock ∧ some k_ ≠ (.slice Ao44 y459.length co44 : Value).ownBlock ∧ k_ ≠ gb434) (fun k_ => ((fun k_ => (w.heap.size ≤ k_) ∧ some k_ ≠ (.slice Ao43 y456.length co43 : Value).ownBlock ∧ some k_ ≠ (.slice Ao44 y459.length co44 : Value).ownBlock ∧ k_ ≠ gb434)) k_ ∧ some k_ ≠ (.slice Ao34 x5_2.length co34 : Value).ownBlock) rfl rfl ?aO ?aR (fun _ hk => hk) ?aF ?aB ?aS ?aL ?_
                 (case aR => exact (by skip; exact Kd.N_F (Kd.N_mono (ok' := (fun k_ => ((fun k_ => (w.heap.size ≤ k_) ∧ some k_ ≠ (.slice Ao43 y456.length co43 : Value).ownBlock ∧ some k_ ≠ (.slice Ao44 y459.length co44 : Value).ownBlock ∧ k_ ≠ gb434)) k_ ∧ some k_ ≠ (.slice Ao34 x5_2.length co34 : Value).ownBlock)) (HO464.out) (fun k_ hk => ⟨⟨hk.1, ⟨hk.2.2.1, ⟨hk.2.2.2.1, hk.2.2.2.2⟩⟩⟩, hk.2.1⟩))))
                 (case aB => exact (by repeat (first | (with_reducible first | exact HB.out | apply below_alloc | apply pw_below_drewN | apply below_drew1 | refine below_set ?_ GE434.out) | exact HB.out)))
                 (case aF => exact (fun k_ hk => ⟨(Nat.le_trans (below_size (by repeat (first | (with_reducible first | exact HB.out | apply below_alloc | apply pw_below_drewN | apply below_drew1 | refine below_set ?_ GE434.out) | exact HB.out))) hk), Kd.fresh' (Kd.R_lt (by (with_reducible repeat (first | apply Kd.R_alloc | apply Kd.R_drewN | apply Kd.R_drew)); exact HO458.out)) k_ hk, Kd.fresh' (Kd.R_lt (by (with_reducible repeat (first | apply Kd.R_alloc | apply Kd.R_drewN | apply Kd.R_drew)); exact HO461.out)) k_ hk, Kd.freshB (g := gb434) (o := .cells #[.int .i64 a0_0, .string a0_1, .int .i64 a0_2, .slice (some ad447) l0_3.length c0_3] 36 (0, 0)) (by (with_reducible repeat (first | refine blk_drewN ?_ _ | refine blk_drew ?_ | refine blk_alloc ?_ _)); exact BK434.out) k_ hk⟩))
                 (case aO => exact (by (with_reducible repeat (first | apply Kd.N_alloc | apply Kd.N_drewN | apply Kd.N_drew)); exact Kd.N_mono HO_5.out (fun _ hk => ⟨hk.1.1.1, ⟨hk.1.1.2.1, ⟨hk.1.2, hk.1.1.2.2⟩⟩⟩)))
                 (case aS => exact (below_size (by repeat (first | (with_reducible first | exact HB.out | apply below_alloc | apply pw_below_drewN | apply below_drew1 | refine below_set ?_ GE434.out) | exact HB.out))))
                 (case aL => have := LMc32.out; omega)
                 intro v466 w46 ho hb hg hat
                 rw [← Ny465.out] at ho
                 have n0_ := Aside0.mk (blk_grown (g := gb434) (o := .cells #[.int .i64 a0_0, .string a0_1, .int .i64 a0_2, .slice (some ad447) l0_3.length c0_3] 36 (0, 0)) (by (with_reducible repeat (first | refine blk_drewN ?_ _ | refine blk_drew ?_ | refine blk_alloc ?_ _)); exact BK434.out) hg (Kd.N_ne HO_5.out BK434.out (by decide)))
                 have n1_ := Aside0.mk (Kd.R_over' (by (with_reducible repeat (first | apply Kd.R_alloc | apply Kd.R_drewN | apply Kd.R_drew)); exact HO458.out) (Kd.N_typed (by (with_reducible repeat (first | apply Kd.N_alloc | apply Kd.N_drewN | apply Kd.N_drew)); exact HO_5.out)) (by decide) hg)
                 have n2_ := Aside0.mk (Kd.R_over' (by (with_reducible repeat (first | apply Kd.R_alloc | apply Kd.R_drewN | apply Kd.R_drew)); exact HO461.out) (Kd.N_typed (by (with_reducible repeat (first | apply Kd.N_alloc | apply Kd.N_drewN | apply Kd.N_drew)); exact HO_5.out)) (by decide) hg)
                 have n3_ := Aside0.mk (Kd.N_afterv (ok := (fun k_ => (w.heap.size ≤ k_) ∧ some k_ ≠ (.slice Ao43 y456.length co43 : Value).ownBlock ∧ some k_ ≠ (.slice Ao44 y459.length co44 : Value).ownBlock ∧ k_ ≠ gb434)) (by (with_reducible repeat (first | apply Kd.N_alloc | apply Kd.N_drewN | apply Kd.N_drew)); exact Kd.N_mono HO464.out (fun _ hk => ⟨⟨hk.1, ⟨hk.2.2.1, ⟨hk.2.2.2.1, hk.2.2.2.2⟩⟩⟩, hk.2.1⟩)) hg hat)
                 have n4_ := Aside0.mk (hb)
                 have n5_ := Aside0.mk (ho)
                 clear BK434
                 clear HO458
                 clear HO461
                 clear HO464
                 clear HB
                 clear HO_5
                 have BK434 := n0_
                 have HO458 := n1_
                 have HO461 := n2_
                 have HO464 := n3_
                 have HB := n4_
                 have HO467 := n5_
                 clear n0_ n1_ n2_ n3_ n4_ n5_
                 clear ho hb hg hat
                 refine hK.out _ _ ⟨(blk_cell BK434.out 0).trans rfl, (blk_cell BK434.out 1).trans rfl, (blk_cell BK434.out 2).trans rfl, (blk_cell BK434.out 3).trans rfl, ((HB.out.cell (World.block_lt_of_cell? w _ hw448_0)).trans hw448_0), ((HB.out.cell (World.block_lt_of_cell? w _ hw448_1)).trans hw448_1), ((HB.out.cell (World.block_lt_of_cell? w _ hw448_2)).trans hw448_2), ((HB.out.cell (World.block_lt_of_cell? w _ hw448_3)).trans hw448_3), ((HB.out.cell (World.block_lt_of_cell? w _ hw449_0)).trans hw449_0), ((HB.out.cell (World.block_lt_of_cell? w _ hw449_1)).trans hw449_1), ((HB.out.cell (World.block_lt_of_cell? w _ hw449_2)).trans hw449_2), ((HB.out.cell (World.block_lt_of_cell? w _ hw449_3)).trans hw449_3)⟩ (fun hHeld => ?_)
                 clear hK K
                 refine norm_ (a' := ?_) ?_ ?_
                 rotate_left
                 ·
                  show Act.put _ (some 58) _ = _
                  simp only [Act.put, List.setIfInBounds_toArray, List.set_cons_zero, List.set_cons_succ, i64_w, i32_w]
                  rfl
                 refine pure_ (i := 19) (N := some 5) (v := ?_) (a' := ?_) #[true, true, true, true, true, true, true, true, true, true, true, true, true, true, true, true, true, true, true, true] rfl rfl (any_of HT_.out (by kernel_rfl)) (fun _ _ _ h => h) (Or.inl ⟨by rfl, ?_⟩) ?_ ?_
                 rotate_left
                 ·
                  intro w'
                  go_simp
                  first | with_reducible rfl | (rw [own_len_N ?hl_ ?hu_]; (case hl_ => assumption); (case hu_ => kernel_rfl); (try with_reducible rfl)) | (rw [own_len_R ?hl_ ?hu_]; (case hl_ => assumption); (case hu_ => kernel_rfl); (try with_reducible rfl))
                 rotate_left
                 ·
                  simp only [Act.put, List.setIfInBounds_toArray, List.set_cons_zero, List.set_cons_succ, i64_w, i32_w]
                  rfl
                 refine done_ (done_of HT_.out (by kernel_rfl)) ?_
                 try go_wp2
                 go_roundg k2
                 case measure => have := HK1.out; have := HK2.out; omega
                 case rel => exact ⟨(y465), (wrap64 (x7_2 + 1)), (by first | rfl | (simp; done) | (simp [*]; done)), H', ⟨by have := HK1.out; have := HK2.out; omega⟩, ⟨by (with_reducible repeat (first | apply Kd.N_alloc | apply Kd.N_drewN | apply Kd.N_drew)); exact Kd.N_mono HO467.out (fun _ hk => ⟨hk.1, hk.2.2.2⟩)⟩, ⟨by (with_reducible repeat (first | refine blk_drewN ?_ _ | refine blk_drew ?_ | refine blk_alloc ?_ _)); exact BK434.out⟩, ⟨by repeat (first | (with_reducible first | exact HB.out | apply below_alloc | apply pw_below_drewN | apply below_drew1 | refine below_set ?_ GE434.out) | exact HB.out)⟩⟩
                ·
                 rw [if_neg c32] at H
                 exact absurd H (by simp)
               ·
                rw [if_neg c30] at H
                exact absurd H (by simp)
              ·
               rw [if_neg c29] at H
               exact absurd H (by simp)
             ·
              rw [if_neg c28] at H
              exact absurd H (by simp)
            ·
             rw [if_neg c27] at H
             have c27b0 : decide (x7_2 < (((rd_T36 l0_3 x6_1).f3).length : Int)) = false := decide_eq_false c27
             clear c27
             have H' := Aside0.mk H
             clear H
             have hcz48_0 : wr.cell? ⟨gb434, 0, none⟩ = some (.int .i64 a0_0) := (blk_cell BK434.out 0).trans rfl
             have hcz48_1 : wr.cell? ⟨gb434, 1, none⟩ = some (.string a0_1) := (blk_cell BK434.out 1).trans rfl
             have hcz48_2 : wr.cell? ⟨gb434, 2, none⟩ = some (.int .i64 a0_2) := (blk_cell BK434.out 2).trans rfl
             have hcz48_3 : wr.cell? ⟨gb434, 3, none⟩ = some (.slice A0_3 l0_3.length c0_3) := (blk_cell BK434.out 3).trans rfl
             have hfz48_0 := blk_frozen BK434.out 0
             have hfz48_1 := blk_frozen BK434.out 1
             have hfz48_2 := blk_frozen BK434.out 2
             have hfz48_3 := blk_frozen BK434.out 3
             have p447 : 0 ≤ (x6_1 : Int) := of_decide_eq_true (by first | (with_reducible assumption) | assumption)
             have q447 : x6_1 < (l0_3.length : Int) := of_decide_eq_true (by first | (with_reducible assumption) | assumption)
             obtain ⟨ad447, A447_3, c447_3, e447, hx447_0, hx447_1, hx447_2, hx447_3, hl447_3, hi447_3⟩ := at_T36 HR0_3.out x6_1 p447 q447
             cases e447
             replace hx447_0 := (HB.out.cell (World.block_lt_of_cell? w _ hx447_0)).trans hx447_0
             replace hx447_1 := (HB.out.cell (World.block_lt_of_cell? w _ hx447_1)).trans hx447_1
             replace hx447_2 := (HB.out.cell (World.block_lt_of_cell? w _ hx447_2)).trans hx447_2
             replace hx447_3 := (HB.out.cell (World.block_lt_of_cell? w _ hx447_3)).trans hx447_3
             have HR447_3 := Aside0.mk hi447_3
             have HC447_3 := Aside0.mk hl447_3
             clear hi447_3 hl447_3
             replace p447 := eq_true p447
             replace q447 := eq_true q447
             go_wp2
             go_roundg k2
             case measure => have := HK1.out; have := HK2.out; omega
             case rel => exact ⟨(x5_2), (wrap64 (x6_1 + 1)), (by first | rfl | (simp; done) | (simp [*]; done)), H', ⟨by have := HK1.out; have := HK2.out; omega⟩, ⟨by (with_reducible repeat (first | apply Kd.N_alloc | apply Kd.N_drewN | apply Kd.N_drew)); exact HO_5.out⟩, ⟨by (with_reducible repeat (first | refine blk_drewN ?_ _ | refine blk_drew ?_ | refine blk_alloc ?_ _)); exact BK434.out⟩, ⟨by repeat (first | (with_reducible first | exact HB.out | apply below_alloc | apply pw_below_drewN | apply below_drew1 | refine below_set ?_ GE434.out) | exact HB.out)⟩⟩
           ·
            rw [if_neg c26] at H
            exact absurd H (by simp)
          ·
           rw [if_neg c25] at H
           exact absurd H (by simp)
      ·
       rw [if_neg c7] at H
       exact absurd H (by simp)
     ·
      rw [if_neg c6] at H
      exact absurd H (by simp)
    ·
     rw [if_neg c5] at H
     exact absurd H (by simp)
   ·
    rw [if_neg c4] at H
    have c4b0 : decide (x6_1 ≤ (l0_3.length : Int)) = false := decide_eq_false c4
    clear c4
    obtain rfl := Option.some.inj H
    have hcz49_0 : wr.cell? ⟨gb434, 0, none⟩ = some (.int .i64 a0_0) := (blk_cell BK434.out 0).trans rfl
    have hcz49_1 : wr.cell? ⟨gb434, 1, none⟩ = some (.string a0_1) := (blk_cell BK434.out 1).trans rfl
    have hcz49_2 : wr.cell? ⟨gb434, 2, none⟩ = some (.int .i64 a0_2) := (blk_cell BK434.out 2).trans rfl
    have hcz49_3 : wr.cell? ⟨gb434, 3, none⟩ = some (.slice A0_3 l0_3.length c0_3) := (blk_cell BK434.out 3).trans rfl
    have hfz49_0 := blk_frozen BK434.out 0
    have hfz49_1 := blk_frozen BK434.out 1
    have hfz49_2 := blk_frozen BK434.out 2
    have hfz49_3 := blk_frozen BK434.out 3
    go_wp2
    go_ret
    exact ⟨_, by first | rfl | (simp [errW_none, errW_some] <;> rfl) | (simp [*, errW_none, errW_some] <;> rfl), by (with_reducible repeat (first | apply Kd.N_alloc | apply Kd.N_drewN | apply Kd.N_drew)); exact Kd.N_mono HO_5.out (fun _ hk => hk.1), by repeat (first | (with_reducible first | exact HB.out | apply below_alloc | apply pw_below_drewN | apply below_drew1 | refine below_set ?_ GE434.out) | exact HB.out)⟩
end Go.Proofs.YtagkhoeidjlahaaDoor.G
