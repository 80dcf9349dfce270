-- Written by pack2.py: this session's texts and the printer's, pruned.
import Derived.Test.YtagkhoeidjlahaaDoorCSe2
namespace Go.Proofs.YtagkhoeidjlahaaDoor.G
open Go.RowKit Go.Proofs.YtagkhoeidjlahaaDoorW.PrintWords Go.Proofs.YtagkhoeidjlahaaDoorW.PrintLast Go.Proofs.YtagkhoeidjlahaaDoorW.PrintMore
attribute [local go_sem] max2_int min2_int max_two min_two max_three min_three max_four min_four
set_option linter.unusedVariables false
set_option linter.unusedSimpArgs false
mutual
def vinculumref09_Count.l0 : Nat → Int → Int → Int → ByteArray → Int → List (S36) → Option (Int)
 | 0, _, _, _, _, _, _ => none
 | k + 1, x3, x4, x254000, x254001, x254002, x254003 => if x4 < (x254003.length : Int) then (if 0 ≤ x4 then ((vinculumref09_Count.f k ((rd_T36 x254003 x4).f0) ((rd_T36 x254003 x4).f1) ((rd_T36 x254003 x4).f2) ((rd_T36 x254003 x4).f3)).bind fun t255 => (vinculumref09_Count.l0 k (wrap64 (x3 + t255)) (wrap64 (x4 + 1)) x254000 x254001 x254002 x254003)) else (none)) else (some x3)
def vinculumref09_Count.f : Nat → Int → ByteArray → Int → List (S36) → Option (Int)
 | 0, _, _, _, _ => none
 | k + 1, a0_0, a0_1, a0_2, l0_3 => vinculumref09_Count.l0 k 1 0 a0_0 a0_1 a0_2 l0_3
end
set_option maxHeartbeats 8000000 in
set_option maxRecDepth 100000 in
theorem vinculumref09_Count.calls (k : Nat) : ∀ (a0_0 : Int) (a0_1 : ByteArray) (a0_2 : Int) (A0_3 : Option Addr) (c0_3 : Nat) (l0_3 : List (S36)) (r : Int) (w : World) (hr0_3 : Kd.C k36 w A0_3 l0_3.length l0_3) (hc0_3 : l0_3.length ≤ c0_3) (h : vinculumref09_Count.f k a0_0 a0_1 a0_2 l0_3 = some r),
  Calls Tryd.prog 96 #[.agg #[.int .i64 a0_0, .string a0_1, .int .i64 a0_2, .slice A0_3 l0_3.length c0_3]] w fun e w' => e = .returned (.int .i64 r) ∧ Below w.heap.size w w' := by
 induction k using Nat.strongRecOn with
 | _ k ih =>
 intro a0_0 a0_1 a0_2 A0_3 c0_3 l0_3 r w hr0_3 hc0_3 h
 cases k with
 | zero => exact absurd h (by simp [vinculumref09_Count.f])
 | succ k =>
 simp only [vinculumref09_Count.f] at h
 have hu36 := Tryd.underlying36
 have HR0_3 := Aside0.mk hr0_3
 have HC0_3 := Aside0.mk hc0_3
 clear hr0_3 hc0_3
 have HB := Aside0.mk (Below.refl w.heap.size w)
 have H : (vinculumref09_Count.l0 k 1 0 a0_0 a0_1 a0_2 l0_3) = some r := h
 clear h
 have H' := Aside0.mk H
 clear H
 go_enter Tryd.func96, Tryd.ntmps96
 go_wp2_with (first | ((with_reducible refine gate_dst (N := 1) rfl ?_); refine box_event ?hg (N := 1) ?hd (cs := #[.int .i64 a0_0, .string a0_1, .int .i64 a0_2, .slice A0_3 l0_3.length c0_3]) (t := 36) ?hr ?_; (case hd => rfl); (case hg => rfl); (case hr => first | (go_simp; done) | (go_simp; rfl)); intro gb253 hg w2 hbox hb; have n0_ := Aside0.mk (below_step (by repeat (first | (with_reducible first | exact HB.out | apply below_alloc | apply pw_below_drewN | apply below_drew1) | exact HB.out)) hb); have n1_ := Aside0.mk (hbox); have n2_ := Aside0.mk ((by rw [hg]; exact (below_size (by repeat (first | (with_reducible first | exact HB.out | apply below_alloc | apply pw_below_drewN | apply below_drew1) | exact HB.out))) : w.heap.size ≤ gb253)); have n3_ := Aside0.mk ((by rw [hg]; exact (below_size (by repeat (first | (with_reducible first | exact HB.out | apply below_alloc | apply pw_below_drewN | apply below_drew1) | exact HB.out))) : w.heap.size ≤ gb253)); clear HB; have HB := n0_; have BK253 := n1_; have GW253 := n2_; have GE253 := n3_; clear n0_ n1_ n2_ n3_; clear hb hbox hg))
 go_loopg [3, 4] k (fun kq v3 v4 w' => ∃ (x3_1 : Int) (x4_1 : Int), v3 = .int .i64 x3_1 ∧ v4 = .int .i64 x4_1 ∧ Aside0 (vinculumref09_Count.l0 kq x3_1 x4_1 a0_0 a0_1 a0_2 l0_3 = some r) ∧ Aside0 (kq ≤ k) ∧ Aside0 (w'.heap[gb253]? = some (.cells #[.int .i64 a0_0, .string a0_1, .int .i64 a0_2, (.slice A0_3 l0_3.length c0_3)] 36 (0, 0))) ∧ Aside0 (Below w.heap.size w w'))
 case atStart => exact ⟨(1), (0), (by first | rfl | (simp; done) | (simp [*]; done)), (by first | rfl | (simp; done) | (simp [*]; done)), H', ⟨Nat.le_refl _⟩, ⟨by (with_reducible repeat (first | refine blk_drewN ?_ _ | refine blk_drew ?_ | refine blk_alloc ?_ _)); exact BK253.out⟩, ⟨by repeat (first | (with_reducible first | exact HB.out | apply below_alloc | apply pw_below_drewN | apply below_drew1 | refine below_set ?_ GE253.out) | exact HB.out)⟩⟩
 case round =>
  clear H'
  try clear p2
  obtain ⟨x3_1, x4_1, rfl, rfl, HA, HK1, BK253, HB⟩ := hrel
  cases gk with
  | zero => exact absurd HA.out (by simp [vinculumref09_Count.l0])
  | succ k1 =>
   have H := HA.out
   clear HA
   simp only [vinculumref09_Count.l0] at H
   by_cases c3 : x4_1 < (l0_3.length : Int)
   ·
    rw [if_pos c3] at H
    have c3b0 : decide (x4_1 < (l0_3.length : Int)) = true := decide_eq_true c3
    clear c3
    by_cases c4 : 0 ≤ x4_1
    ·
     rw [if_pos c4] at H
     have c4b0 : decide (0 ≤ x4_1) = true := decide_eq_true c4
     clear c4
     replace H := Option.bind_eq_some_iff.mp H
     obtain ⟨t255, A50, H⟩ := H
     replace H : (vinculumref09_Count.l0 k1 (wrap64 (x3_1 + t255)) (wrap64 (x4_1 + 1)) a0_0 a0_1 a0_2 l0_3) = some r := H
     have A5 := Aside0.mk A50
     clear A50
     have H' := Aside0.mk H
     clear H
     have hcz6_0 : wr.cell? ⟨gb253, 0, none⟩ = some (.int .i64 a0_0) := (blk_cell BK253.out 0).trans rfl
     have hcz6_1 : wr.cell? ⟨gb253, 1, none⟩ = some (.string a0_1) := (blk_cell BK253.out 1).trans rfl
     have hcz6_2 : wr.cell? ⟨gb253, 2, none⟩ = some (.int .i64 a0_2) := (blk_cell BK253.out 2).trans rfl
     have hcz6_3 : wr.cell? ⟨gb253, 3, none⟩ = some (.slice A0_3 l0_3.length c0_3) := (blk_cell BK253.out 3).trans rfl
     have hfz6_0 := blk_frozen BK253.out 0
     have hfz6_1 := blk_frozen BK253.out 1
     have hfz6_2 := blk_frozen BK253.out 2
     have hfz6_3 := blk_frozen BK253.out 3
     have p254 : 0 ≤ (x4_1 : Int) := of_decide_eq_true (by first | (with_reducible assumption) | assumption)
     have q254 : x4_1 < (l0_3.length : Int) := of_decide_eq_true (by first | (with_reducible assumption) | assumption)
     obtain ⟨ad254, A254_3, c254_3, e254, hx254_0, hx254_1, hx254_2, hx254_3, hl254_3, hi254_3⟩ := at_T36 HR0_3.out x4_1 p254 q254
     cases e254
     replace hx254_0 := (HB.out.cell (World.block_lt_of_cell? w _ hx254_0)).trans hx254_0
     replace hx254_1 := (HB.out.cell (World.block_lt_of_cell? w _ hx254_1)).trans hx254_1
     replace hx254_2 := (HB.out.cell (World.block_lt_of_cell? w _ hx254_2)).trans hx254_2
     replace hx254_3 := (HB.out.cell (World.block_lt_of_cell? w _ hx254_3)).trans hx254_3
     have HR254_3 := Aside0.mk hi254_3
     have HC254_3 := Aside0.mk hl254_3
     clear hi254_3 hl254_3
     replace p254 := eq_true p254
     replace q254 := eq_true q254
     go_wp2_with (first | ((with_reducible refine gate_callee (f := 96) rfl ?_); refine goesL_ (some 18) rfl rfl Tryd.func96 (by kernel_rfl) rfl #[.agg #[.int .i64 ((rd_T36 l0_3 x4_1).f0), .string ((rd_T36 l0_3 x4_1).f1), .int .i64 ((rd_T36 l0_3 x4_1).f2), .slice A254_3 ((rd_T36 l0_3 x4_1).f3).length c254_3]] rfl (by (try simp only [List.map_toArray, List.map_cons, List.map_nil]); first | done | rfl | (simp only [List.length_drop, List.length_take]; rfl)) ?_; (with_reducible refine (ih k1 (by have := HK1.out; omega) ((rd_T36 l0_3 x4_1).f0) ((rd_T36 l0_3 x4_1).f1) ((rd_T36 l0_3 x4_1).f2) _ _ ((rd_T36 l0_3 x4_1).f3) t255 _ ?side1 ?side2 A5.out).mono ?_); (case side1 => repeat (first | exact (Kd.C_below HR254_3.out HB.out) | (with_reducible refine Kd.C_alloc ?_ _) | (with_reducible refine Kd.C_drewN ?_ _) | (with_reducible refine Kd.C_drew ?_))); (case side2 => exact HC254_3.out); rintro e w7 ⟨rfl, hb⟩; refine ⟨_, rfl, ?_⟩; have n0_ := Aside0.mk (blk_below (g := gb253) (o := .cells #[.int .i64 a0_0, .string a0_1, .int .i64 a0_2, .slice (some ad254) l0_3.length c0_3] 36 (0, 0)) (by (with_reducible repeat (first | refine blk_drewN ?_ _ | refine blk_drew ?_ | refine blk_alloc ?_ _)); exact BK253.out) hb); have n1_ := Aside0.mk (below_step (by repeat (first | (with_reducible first | exact HB.out | apply below_alloc | apply pw_below_drewN | apply below_drew1 | refine below_set ?_ GE253.out) | exact HB.out)) hb); clear BK253; clear HB; have BK253 := n0_; have HB := n1_; clear n0_ n1_; (try clear hb); (try clear hb2); (try clear hk); (try clear hi)))
     go_roundg k1
     case measure => have := HK1.out; omega
     case rel => exact ⟨(wrap64 (x3_1 + t255)), (wrap64 (x4_1 + 1)), (by first | rfl | (simp; done) | (simp [*]; done)), (by first | rfl | (simp; done) | (simp [*]; done)), H', ⟨by have := HK1.out; omega⟩, ⟨by (with_reducible repeat (first | refine blk_drewN ?_ _ | refine blk_drew ?_ | refine blk_alloc ?_ _)); exact BK253.out⟩, ⟨by repeat (first | (with_reducible first | exact HB.out | apply below_alloc | apply pw_below_drewN | apply below_drew1 | refine below_set ?_ GE253.out) | exact HB.out)⟩⟩
    ·
     rw [if_neg c4] at H
     exact absurd H (by simp)
   ·
    rw [if_neg c3] at H
    have c3b0 : decide (x4_1 < (l0_3.length : Int)) = false := decide_eq_false c3
    clear c3
    obtain rfl := Option.some.inj H
    have hcz8_0 : wr.cell? ⟨gb253, 0, none⟩ = some (.int .i64 a0_0) := (blk_cell BK253.out 0).trans rfl
    have hcz8_1 : wr.cell? ⟨gb253, 1, none⟩ = some (.string a0_1) := (blk_cell BK253.out 1).trans rfl
    have hcz8_2 : wr.cell? ⟨gb253, 2, none⟩ = some (.int .i64 a0_2) := (blk_cell BK253.out 2).trans rfl
    have hcz8_3 : wr.cell? ⟨gb253, 3, none⟩ = some (.slice A0_3 l0_3.length c0_3) := (blk_cell BK253.out 3).trans rfl
    have hfz8_0 := blk_frozen BK253.out 0
    have hfz8_1 := blk_frozen BK253.out 1
    have hfz8_2 := blk_frozen BK253.out 2
    have hfz8_3 := blk_frozen BK253.out 3
    go_wp2
    go_ret
    exact ⟨by first | rfl | (simp [errW_none, errW_some] <;> rfl) | (simp [*, errW_none, errW_some] <;> rfl), by repeat (first | (with_reducible first | exact HB.out | apply below_alloc | apply pw_below_drewN | apply below_drew1 | refine below_set ?_ GE253.out) | exact HB.out)⟩
mutual
def vinculumref09_Depth.l0 : Nat → Int → Int → Int → ByteArray → Int → List (S36) → Option (Int)
 | 0, _, _, _, _, _, _ => none
 | k + 1, x3, x4, x257000, x257001, x257002, x257003 => if x4 < (x257003.length : Int) then (if 0 ≤ x4 then ((vinculumref09_Depth.f k ((rd_T36 x257003 x4).f0) ((rd_T36 x257003 x4).f1) ((rd_T36 x257003 x4).f2) ((rd_T36 x257003 x4).f3)).bind fun t258 => (vinculumref09_Depth.l0 k (mx x3 t258) (wrap64 (x4 + 1)) x257000 x257001 x257002 x257003)) else (none)) else (some (wrap64 (x3 + 1)))
def vinculumref09_Depth.f : Nat → Int → ByteArray → Int → List (S36) → Option (Int)
 | 0, _, _, _, _ => none
 | k + 1, a0_0, a0_1, a0_2, l0_3 => vinculumref09_Depth.l0 k 0 0 a0_0 a0_1 a0_2 l0_3
end
set_option maxHeartbeats 8000000 in
set_option maxRecDepth 100000 in
theorem vinculumref09_Depth.calls (k : Nat) : ∀ (a0_0 : Int) (a0_1 : ByteArray) (a0_2 : Int) (A0_3 : Option Addr) (c0_3 : Nat) (l0_3 : List (S36)) (r : Int) (w : World) (hr0_3 : Kd.C k36 w A0_3 l0_3.length l0_3) (hc0_3 : l0_3.length ≤ c0_3) (h : vinculumref09_Depth.f k a0_0 a0_1 a0_2 l0_3 = some r),
  Calls Tryd.prog 97 #[.agg #[.int .i64 a0_0, .string a0_1, .int .i64 a0_2, .slice A0_3 l0_3.length c0_3]] w fun e w' => e = .returned (.int .i64 r) ∧ Below w.heap.size w w' := by
 induction k using Nat.strongRecOn with
 | _ k ih =>
 intro a0_0 a0_1 a0_2 A0_3 c0_3 l0_3 r w hr0_3 hc0_3 h
 cases k with
 | zero => exact absurd h (by simp [vinculumref09_Depth.f])
 | succ k =>
 simp only [vinculumref09_Depth.f] at h
 have hu36 := Tryd.underlying36
 have HR0_3 := Aside0.mk hr0_3
 have HC0_3 := Aside0.mk hc0_3
 clear hr0_3 hc0_3
 have HB := Aside0.mk (Below.refl w.heap.size w)
 have H : (vinculumref09_Depth.l0 k 0 0 a0_0 a0_1 a0_2 l0_3) = some r := h
 clear h
 have H' := Aside0.mk H
 clear H
 go_enter Tryd.func97, Tryd.ntmps97
 go_wp2_with (first | ((with_reducible refine gate_dst (N := 1) rfl ?_); refine box_event ?hg (N := 1) ?hd (cs := #[.int .i64 a0_0, .string a0_1, .int .i64 a0_2, .slice A0_3 l0_3.length c0_3]) (t := 36) ?hr ?_; (case hd => rfl); (case hg => rfl); (case hr => first | (go_simp; done) | (go_simp; rfl)); intro gb256 hg w2 hbox hb; have n0_ := Aside0.mk (below_step (by repeat (first | (with_reducible first | exact HB.out | apply below_alloc | apply pw_below_drewN | apply below_drew1) | exact HB.out)) hb); have n1_ := Aside0.mk (hbox); have n2_ := Aside0.mk ((by rw [hg]; exact (below_size (by repeat (first | (with_reducible first | exact HB.out | apply below_alloc | apply pw_below_drewN | apply below_drew1) | exact HB.out))) : w.heap.size ≤ gb256)); have n3_ := Aside0.mk ((by rw [hg]; exact (below_size (by repeat (first | (with_reducible first | exact HB.out | apply below_alloc | apply pw_below_drewN | apply below_drew1) | exact HB.out))) : w.heap.size ≤ gb256)); clear HB; have HB := n0_; have BK256 := n1_; have GW256 := n2_; have GE256 := n3_; clear n0_ n1_ n2_ n3_; clear hb hbox hg))
 go_loopg [3, 4] k (fun kq v3 v4 w' => ∃ (x3_1 : Int) (x4_1 : Int), v3 = .int .i64 x3_1 ∧ v4 = .int .i64 x4_1 ∧ Aside0 (vinculumref09_Depth.l0 kq x3_1 x4_1 a0_0 a0_1 a0_2 l0_3 = some r) ∧ Aside0 (kq ≤ k) ∧ Aside0 (w'.heap[gb256]? = some (.cells #[.int .i64 a0_0, .string a0_1, .int .i64 a0_2, (.slice A0_3 l0_3.length c0_3)] 36 (0, 0))) ∧ Aside0 (Below w.heap.size w w'))
 case atStart => exact ⟨(0), (0), (by first | rfl | (simp; done) | (simp [*]; done)), (by first | rfl | (simp; done) | (simp [*]; done)), H', ⟨Nat.le_refl _⟩, ⟨by (with_reducible repeat (first | refine blk_drewN ?_ _ | refine blk_drew ?_ | refine blk_alloc ?_ _)); exact BK256.out⟩, ⟨by repeat (first | (with_reducible first | exact HB.out | apply below_alloc | apply pw_below_drewN | apply below_drew1 | refine below_set ?_ GE256.out) | exact HB.out)⟩⟩
 case round =>
  clear H'
  try clear p2
  obtain ⟨x3_1, x4_1, rfl, rfl, HA, HK1, BK256, HB⟩ := hrel
  cases gk with
  | zero => exact absurd HA.out (by simp [vinculumref09_Depth.l0])
  | succ k1 =>
   have H := HA.out
   clear HA
   simp only [vinculumref09_Depth.l0] at H
   by_cases c3 : x4_1 < (l0_3.length : Int)
   ·
    rw [if_pos c3] at H
    have c3b0 : decide (x4_1 < (l0_3.length : Int)) = true := decide_eq_true c3
    clear c3
    by_cases c4 : 0 ≤ x4_1
    ·
     rw [if_pos c4] at H
     have c4b0 : decide (0 ≤ x4_1) = true := decide_eq_true c4
     clear c4
     replace H := Option.bind_eq_some_iff.mp H
     obtain ⟨t258, A50, H⟩ := H
     replace H : (vinculumref09_Depth.l0 k1 (mx x3_1 t258) (wrap64 (x4_1 + 1)) a0_0 a0_1 a0_2 l0_3) = some r := H
     have A5 := Aside0.mk A50
     clear A50
     obtain ⟨ji6, hji6⟩ : ∃ j_ : Int, (mx x3_1 t258) = j_ := ⟨_, rfl⟩
     replace H : (vinculumref09_Depth.l0 k1 ji6 (wrap64 (x4_1 + 1)) a0_0 a0_1 a0_2 l0_3) = some r := by first | (rw [hji6] at H; exact H) | (simp only [hji6] at H ⊢; exact H)
     (try rw [hji6] at A5)
     have hji6_ : (if x3_1 < t258 then t258 else x3_1) = ji6 := hji6
     have H' := Aside0.mk H
     clear H
     have hcz7_0 : wr.cell? ⟨gb256, 0, none⟩ = some (.int .i64 a0_0) := (blk_cell BK256.out 0).trans rfl
     have hcz7_1 : wr.cell? ⟨gb256, 1, none⟩ = some (.string a0_1) := (blk_cell BK256.out 1).trans rfl
     have hcz7_2 : wr.cell? ⟨gb256, 2, none⟩ = some (.int .i64 a0_2) := (blk_cell BK256.out 2).trans rfl
     have hcz7_3 : wr.cell? ⟨gb256, 3, none⟩ = some (.slice A0_3 l0_3.length c0_3) := (blk_cell BK256.out 3).trans rfl
     have hfz7_0 := blk_frozen BK256.out 0
     have hfz7_1 := blk_frozen BK256.out 1
     have hfz7_2 := blk_frozen BK256.out 2
     have hfz7_3 := blk_frozen BK256.out 3
     have p257 : 0 ≤ (x4_1 : Int) := of_decide_eq_true (by first | (with_reducible assumption) | assumption)
     have q257 : x4_1 < (l0_3.length : Int) := of_decide_eq_true (by first | (with_reducible assumption) | assumption)
     obtain ⟨ad257, A257_3, c257_3, e257, hx257_0, hx257_1, hx257_2, hx257_3, hl257_3, hi257_3⟩ := at_T36 HR0_3.out x4_1 p257 q257
     cases e257
     replace hx257_0 := (HB.out.cell (World.block_lt_of_cell? w _ hx257_0)).trans hx257_0
     replace hx257_1 := (HB.out.cell (World.block_lt_of_cell? w _ hx257_1)).trans hx257_1
     replace hx257_2 := (HB.out.cell (World.block_lt_of_cell? w _ hx257_2)).trans hx257_2
     replace hx257_3 := (HB.out.cell (World.block_lt_of_cell? w _ hx257_3)).trans hx257_3
     have HR257_3 := Aside0.mk hi257_3
     have HC257_3 := Aside0.mk hl257_3
     clear hi257_3 hl257_3
     replace p257 := eq_true p257
     replace q257 := eq_true q257
     go_wp2_with (first | ((with_reducible refine gate_callee (f := 97) rfl ?_); refine goesL_ (some 18) rfl rfl Tryd.func97 (by kernel_rfl) rfl #[.agg #[.int .i64 ((rd_T36 l0_3 x4_1).f0), .string ((rd_T36 l0_3 x4_1).f1), .int .i64 ((rd_T36 l0_3 x4_1).f2), .slice A257_3 ((rd_T36 l0_3 x4_1).f3).length c257_3]] rfl (by (try simp only [List.map_toArray, List.map_cons, List.map_nil]); first | done | rfl | (simp only [List.length_drop, List.length_take]; rfl)) ?_; (with_reducible refine (ih k1 (by have := HK1.out; omega) ((rd_T36 l0_3 x4_1).f0) ((rd_T36 l0_3 x4_1).f1) ((rd_T36 l0_3 x4_1).f2) _ _ ((rd_T36 l0_3 x4_1).f3) t258 _ ?side1 ?side2 A5.out).mono ?_); (case side1 => repeat (first | exact (Kd.C_below HR257_3.out HB.out) | (with_reducible refine Kd.C_alloc ?_ _) | (with_reducible refine Kd.C_drewN ?_ _) | (with_reducible refine Kd.C_drew ?_))); (case side2 => exact HC257_3.out); rintro e w8 ⟨rfl, hb⟩; refine ⟨_, rfl, ?_⟩; have n0_ := Aside0.mk (blk_below (g := gb256) (o := .cells #[.int .i64 a0_0, .string a0_1, .int .i64 a0_2, .slice (some ad257) l0_3.length c0_3] 36 (0, 0)) (by (with_reducible repeat (first | refine blk_drewN ?_ _ | refine blk_drew ?_ | refine blk_alloc ?_ _)); exact BK256.out) hb); have n1_ := Aside0.mk (below_step (by repeat (first | (with_reducible first | exact HB.out | apply below_alloc | apply pw_below_drewN | apply below_drew1 | refine below_set ?_ GE256.out) | exact HB.out)) hb); clear BK256; clear HB; have BK256 := n0_; have HB := n1_; clear n0_ n1_; (try clear hb); (try clear hb2); (try clear hk); (try clear hi)))
     go_roundg k1
     case measure => have := HK1.out; omega
     case rel => exact ⟨(ji6), (wrap64 (x4_1 + 1)), (by first | rfl | (simp; done) | (simp only [← hji6] <;> (first | rfl | simp)) | (simp [*]; done)), (by first | rfl | (simp; done) | (simp [*]; done)), H', ⟨by have := HK1.out; omega⟩, ⟨by (with_reducible repeat (first | refine blk_drewN ?_ _ | refine blk_drew ?_ | refine blk_alloc ?_ _)); exact BK256.out⟩, ⟨by repeat (first | (with_reducible first | exact HB.out | apply below_alloc | apply pw_below_drewN | apply below_drew1 | refine below_set ?_ GE256.out) | exact HB.out)⟩⟩
    ·
     rw [if_neg c4] at H
     exact absurd H (by simp)
   ·
    rw [if_neg c3] at H
    have c3b0 : decide (x4_1 < (l0_3.length : Int)) = false := decide_eq_false c3
    clear c3
    obtain rfl := Option.some.inj H
    have hcz9_0 : wr.cell? ⟨gb256, 0, none⟩ = some (.int .i64 a0_0) := (blk_cell BK256.out 0).trans rfl
    have hcz9_1 : wr.cell? ⟨gb256, 1, none⟩ = some (.string a0_1) := (blk_cell BK256.out 1).trans rfl
    have hcz9_2 : wr.cell? ⟨gb256, 2, none⟩ = some (.int .i64 a0_2) := (blk_cell BK256.out 2).trans rfl
    have hcz9_3 : wr.cell? ⟨gb256, 3, none⟩ = some (.slice A0_3 l0_3.length c0_3) := (blk_cell BK256.out 3).trans rfl
    have hfz9_0 := blk_frozen BK256.out 0
    have hfz9_1 := blk_frozen BK256.out 1
    have hfz9_2 := blk_frozen BK256.out 2
    have hfz9_3 := blk_frozen BK256.out 3
    go_wp2
    go_ret
    exact ⟨by first | rfl | (simp [errW_none, errW_some] <;> rfl) | (simp [*, errW_none, errW_some] <;> rfl), by repeat (first | (with_reducible first | exact HB.out | apply below_alloc | apply pw_below_drewN | apply below_drew1 | refine below_set ?_ GE256.out) | exact HB.out)⟩
end Go.Proofs.YtagkhoeidjlahaaDoor.G
