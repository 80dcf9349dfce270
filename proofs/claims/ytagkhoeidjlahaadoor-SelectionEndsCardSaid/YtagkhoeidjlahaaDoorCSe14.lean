-- Written by pack2.py: this session's texts and the printer's, pruned.
import Derived.Test.YtagkhoeidjlahaaDoorCSe2
namespace Go.Proofs.YtagkhoeidjlahaaDoor.G
open Go.RowKit Go.Proofs.YtagkhoeidjlahaaDoorW.PrintWords Go.Proofs.YtagkhoeidjlahaaDoorW.PrintLast Go.Proofs.YtagkhoeidjlahaaDoorW.PrintMore
attribute [local go_sem] max2_int min2_int max_two min_two max_three min_three max_four min_four
set_option linter.unusedVariables false
set_option linter.unusedSimpArgs false
mutual
def vinculumref09_kids.j0 : Nat → Int → Int → Bool → Option (Bool)
 | 0, _, _, _ => none
 | k + 1, x3, x37, x42 => if x42 = true then (some (x3 == 0)) else (if x37 = 5 then (vinculumref09_kids.j1 k x3 x37 (x37 == 5)) else (if x37 = 6 then (vinculumref09_kids.j1 k x3 x37 (x37 == 6)) else (if x37 = 7 then (vinculumref09_kids.j1 k x3 x37 (x37 == 7)) else (vinculumref09_kids.j1 k x3 x37 (x37 == 8)))))
def vinculumref09_kids.j1 : Nat → Int → Int → Bool → Option (Bool)
 | 0, _, _, _ => none
 | k + 1, x3, x37, x48 => if x48 = true then (some (x3 == 2)) else (if x37 = 9 then (some (x3 == 3)) else (if x37 = 10 then (some (x3 == 1)) else (if x37 = 11 then (some (x3 == 1)) else (some false))))
end
def vinculumref09_kids.f (k : Nat) (a0_0 : Int) (a0_1 : ByteArray) (a0_2 : Int) (l0_3 : List (S36)) : Option (Bool) := if a0_0 = 12 then (if a0_2 ≥ 1 then (if a0_2 ≤ 16 then (if (l0_3.length : Int) ≥ 1 then (if (l0_3.length : Int) ≤ 256 then (if a0_2 = 0 then (none) else (some (((l0_3.length : Int) % a0_2) == 0))) else (some false)) else (some false)) else (some false)) else (some false)) else (if a0_2 = 0 then (if a0_0 = 1 then (some (decide ((l0_3.length : Int) ≤ 200))) else (if a0_0 = 2 then (vinculumref09_kids.j0 k (l0_3.length : Int) a0_0 (a0_0 == 2)) else (if a0_0 = 3 then (vinculumref09_kids.j0 k (l0_3.length : Int) a0_0 (a0_0 == 3)) else (vinculumref09_kids.j0 k (l0_3.length : Int) a0_0 (a0_0 == 4))))) else (some false))
set_option maxHeartbeats 8000000 in
set_option maxRecDepth 100000 in
theorem vinculumref09_kids.calls (k : Nat) (a0_0 : Int) (a0_1 : ByteArray) (a0_2 : Int) (A0_3 : Option Addr) (c0_3 : Nat) (l0_3 : List (S36)) (r : Bool) (w : World) (hr0_3 : Kd.C k36 w A0_3 l0_3.length l0_3) (hc0_3 : l0_3.length ≤ c0_3) (h : vinculumref09_kids.f k a0_0 a0_1 a0_2 l0_3 = some r) :
  Calls Tryd.prog 111 #[.agg #[.int .i64 a0_0, .string a0_1, .int .i64 a0_2, .slice A0_3 l0_3.length c0_3]] w fun e w' => e = .returned (.bool r) ∧ Below w.heap.size w w' := by
 have hu36 := Tryd.underlying36
 have HR0_3 := Aside0.mk hr0_3
 have HC0_3 := Aside0.mk hc0_3
 clear hr0_3 hc0_3
 have HB := Aside0.mk (Below.refl w.heap.size w)
 have H : (if a0_0 = 12 then (if a0_2 ≥ 1 then (if a0_2 ≤ 16 then (if (l0_3.length : Int) ≥ 1 then (if (l0_3.length : Int) ≤ 256 then (if a0_2 = 0 then (none) else (some (((l0_3.length : Int) % a0_2) == 0))) else (some false)) else (some false)) else (some false)) else (some false)) else (if a0_2 = 0 then (if a0_0 = 1 then (some (decide ((l0_3.length : Int) ≤ 200))) else (if a0_0 = 2 then (vinculumref09_kids.j0 k (l0_3.length : Int) a0_0 (a0_0 == 2)) else (if a0_0 = 3 then (vinculumref09_kids.j0 k (l0_3.length : Int) a0_0 (a0_0 == 3)) else (vinculumref09_kids.j0 k (l0_3.length : Int) a0_0 (a0_0 == 4))))) else (some false))) = some r := h
 clear h
 by_cases c2 : a0_0 = 12
 ·
  rw [if_pos c2] at H
  have c2b0 : (a0_0 == 12) = true := beq_iff_eq.mpr c2
  have c2b1 : (a0_0 != 12) = false := bne_eq_false_iff_eq.mpr c2
  clear c2
  by_cases c3 : a0_2 ≥ 1
  ·
   rw [if_pos c3] at H
   have c3b0 : decide (1 ≤ a0_2) = true := decide_eq_true c3
   clear c3
   by_cases c4 : a0_2 ≤ 16
   ·
    rw [if_pos c4] at H
    have c4b0 : decide (a0_2 ≤ 16) = true := decide_eq_true c4
    clear c4
    by_cases c5 : (l0_3.length : Int) ≥ 1
    ·
     rw [if_pos c5] at H
     have c5b0 : decide (1 ≤ (l0_3.length : Int)) = true := decide_eq_true c5
     have c5b1 : decide (1 ≤ l0_3.length) = true := decide_eq_true (by omega)
     clear c5
     by_cases c6 : (l0_3.length : Int) ≤ 256
     ·
      rw [if_pos c6] at H
      have c6b0 : decide ((l0_3.length : Int) ≤ 256) = true := decide_eq_true c6
      have c6b1 : decide (l0_3.length ≤ 256) = true := decide_eq_true (by omega)
      clear c6
      by_cases c7 : a0_2 = 0
      ·
       rw [if_pos c7] at H
       exact absurd H (by simp)
      ·
       rw [if_neg c7] at H
       have c7b0 : (a0_2 == 0) = false := beq_eq_false_iff_ne.mpr c7
       have c7b1 : (a0_2 != 0) = true := bne_iff_ne.mpr c7
       obtain rfl := Option.some.inj H
       go_enter Tryd.func111, Tryd.ntmps111
       go_wp2_with (first | ((with_reducible refine gate_dst (N := 1) rfl ?_); refine box_event ?hg (N := 1) ?hd (cs := #[.int .i64 a0_0, .string a0_1, .int .i64 a0_2, .slice A0_3 l0_3.length c0_3]) (t := 36) ?hr ?_; (case hd => rfl); (case hg => rfl); (case hr => first | (go_simp; done) | (go_simp; rfl)); intro gb246 hg w8 hbox hb; have n0_ := Aside0.mk (below_step (by repeat (first | (with_reducible first | exact HB.out | apply below_alloc | apply pw_below_drewN | apply below_drew1) | exact HB.out)) hb); have n1_ := Aside0.mk (hbox); have n2_ := Aside0.mk ((by rw [hg]; exact (below_size (by repeat (first | (with_reducible first | exact HB.out | apply below_alloc | apply pw_below_drewN | apply below_drew1) | exact HB.out))) : w.heap.size ≤ gb246)); have n3_ := Aside0.mk ((by rw [hg]; exact (below_size (by repeat (first | (with_reducible first | exact HB.out | apply below_alloc | apply pw_below_drewN | apply below_drew1) | exact HB.out))) : w.heap.size ≤ gb246)); clear HB; have HB := n0_; have BK246 := n1_; have GW246 := n2_; have GE246 := n3_; clear n0_ n1_ n2_ n3_; clear hb hbox hg; have hcz9_0 : w8.cell? ⟨gb246, 0, none⟩ = some (.int .i64 a0_0) := (blk_cell BK246.out 0).trans rfl; have hcz9_1 : w8.cell? ⟨gb246, 1, none⟩ = some (.string a0_1) := (blk_cell BK246.out 1).trans rfl; have hcz9_2 : w8.cell? ⟨gb246, 2, none⟩ = some (.int .i64 a0_2) := (blk_cell BK246.out 2).trans rfl; have hcz9_3 : w8.cell? ⟨gb246, 3, none⟩ = some (.slice A0_3 l0_3.length c0_3) := (blk_cell BK246.out 3).trans rfl; have hfz9_0 := blk_frozen BK246.out 0; have hfz9_1 := blk_frozen BK246.out 1; have hfz9_2 := blk_frozen BK246.out 2; have hfz9_3 := blk_frozen BK246.out 3))
       go_ret
       exact ⟨by first | rfl | (simp [errW_none, errW_some] <;> rfl) | (simp [*, errW_none, errW_some] <;> rfl), by repeat (first | (with_reducible first | exact HB.out | apply below_alloc | apply pw_below_drewN | apply below_drew1 | refine below_set ?_ GE246.out) | exact HB.out)⟩
     ·
      rw [if_neg c6] at H
      have c6b0 : decide ((l0_3.length : Int) ≤ 256) = false := decide_eq_false c6
      have c6b1 : decide (l0_3.length ≤ 256) = false := decide_eq_false (by omega)
      clear c6
      obtain rfl := Option.some.inj H
      go_enter Tryd.func111, Tryd.ntmps111
      go_wp2_with (first | ((with_reducible refine gate_dst (N := 1) rfl ?_); refine box_event ?hg (N := 1) ?hd (cs := #[.int .i64 a0_0, .string a0_1, .int .i64 a0_2, .slice A0_3 l0_3.length c0_3]) (t := 36) ?hr ?_; (case hd => rfl); (case hg => rfl); (case hr => first | (go_simp; done) | (go_simp; rfl)); intro gb246 hg w10 hbox hb; have n0_ := Aside0.mk (below_step (by repeat (first | (with_reducible first | exact HB.out | apply below_alloc | apply pw_below_drewN | apply below_drew1) | exact HB.out)) hb); have n1_ := Aside0.mk (hbox); have n2_ := Aside0.mk ((by rw [hg]; exact (below_size (by repeat (first | (with_reducible first | exact HB.out | apply below_alloc | apply pw_below_drewN | apply below_drew1) | exact HB.out))) : w.heap.size ≤ gb246)); have n3_ := Aside0.mk ((by rw [hg]; exact (below_size (by repeat (first | (with_reducible first | exact HB.out | apply below_alloc | apply pw_below_drewN | apply below_drew1) | exact HB.out))) : w.heap.size ≤ gb246)); clear HB; have HB := n0_; have BK246 := n1_; have GW246 := n2_; have GE246 := n3_; clear n0_ n1_ n2_ n3_; clear hb hbox hg; have hcz11_0 : w10.cell? ⟨gb246, 0, none⟩ = some (.int .i64 a0_0) := (blk_cell BK246.out 0).trans rfl; have hcz11_1 : w10.cell? ⟨gb246, 1, none⟩ = some (.string a0_1) := (blk_cell BK246.out 1).trans rfl; have hcz11_2 : w10.cell? ⟨gb246, 2, none⟩ = some (.int .i64 a0_2) := (blk_cell BK246.out 2).trans rfl; have hcz11_3 : w10.cell? ⟨gb246, 3, none⟩ = some (.slice A0_3 l0_3.length c0_3) := (blk_cell BK246.out 3).trans rfl; have hfz11_0 := blk_frozen BK246.out 0; have hfz11_1 := blk_frozen BK246.out 1; have hfz11_2 := blk_frozen BK246.out 2; have hfz11_3 := blk_frozen BK246.out 3))
      go_ret
      exact ⟨by first | rfl | (simp [errW_none, errW_some] <;> rfl) | (simp [*, errW_none, errW_some] <;> rfl), by repeat (first | (with_reducible first | exact HB.out | apply below_alloc | apply pw_below_drewN | apply below_drew1 | refine below_set ?_ GE246.out) | exact HB.out)⟩
    ·
     rw [if_neg c5] at H
     have c5b0 : decide (1 ≤ (l0_3.length : Int)) = false := decide_eq_false c5
     have c5b1 : decide (1 ≤ l0_3.length) = false := decide_eq_false (by omega)
     clear c5
     obtain rfl := Option.some.inj H
     go_enter Tryd.func111, Tryd.ntmps111
     go_wp2_with (first | ((with_reducible refine gate_dst (N := 1) rfl ?_); refine box_event ?hg (N := 1) ?hd (cs := #[.int .i64 a0_0, .string a0_1, .int .i64 a0_2, .slice A0_3 l0_3.length c0_3]) (t := 36) ?hr ?_; (case hd => rfl); (case hg => rfl); (case hr => first | (go_simp; done) | (go_simp; rfl)); intro gb246 hg w12 hbox hb; have n0_ := Aside0.mk (below_step (by repeat (first | (with_reducible first | exact HB.out | apply below_alloc | apply pw_below_drewN | apply below_drew1) | exact HB.out)) hb); have n1_ := Aside0.mk (hbox); have n2_ := Aside0.mk ((by rw [hg]; exact (below_size (by repeat (first | (with_reducible first | exact HB.out | apply below_alloc | apply pw_below_drewN | apply below_drew1) | exact HB.out))) : w.heap.size ≤ gb246)); have n3_ := Aside0.mk ((by rw [hg]; exact (below_size (by repeat (first | (with_reducible first | exact HB.out | apply below_alloc | apply pw_below_drewN | apply below_drew1) | exact HB.out))) : w.heap.size ≤ gb246)); clear HB; have HB := n0_; have BK246 := n1_; have GW246 := n2_; have GE246 := n3_; clear n0_ n1_ n2_ n3_; clear hb hbox hg; have hcz13_0 : w12.cell? ⟨gb246, 0, none⟩ = some (.int .i64 a0_0) := (blk_cell BK246.out 0).trans rfl; have hcz13_1 : w12.cell? ⟨gb246, 1, none⟩ = some (.string a0_1) := (blk_cell BK246.out 1).trans rfl; have hcz13_2 : w12.cell? ⟨gb246, 2, none⟩ = some (.int .i64 a0_2) := (blk_cell BK246.out 2).trans rfl; have hcz13_3 : w12.cell? ⟨gb246, 3, none⟩ = some (.slice A0_3 l0_3.length c0_3) := (blk_cell BK246.out 3).trans rfl; have hfz13_0 := blk_frozen BK246.out 0; have hfz13_1 := blk_frozen BK246.out 1; have hfz13_2 := blk_frozen BK246.out 2; have hfz13_3 := blk_frozen BK246.out 3))
     go_ret
     exact ⟨by first | rfl | (simp [errW_none, errW_some] <;> rfl) | (simp [*, errW_none, errW_some] <;> rfl), by repeat (first | (with_reducible first | exact HB.out | apply below_alloc | apply pw_below_drewN | apply below_drew1 | refine below_set ?_ GE246.out) | exact HB.out)⟩
   ·
    rw [if_neg c4] at H
    have c4b0 : decide (a0_2 ≤ 16) = false := decide_eq_false c4
    clear c4
    obtain rfl := Option.some.inj H
    go_enter Tryd.func111, Tryd.ntmps111
    go_wp2_with (first | ((with_reducible refine gate_dst (N := 1) rfl ?_); refine box_event ?hg (N := 1) ?hd (cs := #[.int .i64 a0_0, .string a0_1, .int .i64 a0_2, .slice A0_3 l0_3.length c0_3]) (t := 36) ?hr ?_; (case hd => rfl); (case hg => rfl); (case hr => first | (go_simp; done) | (go_simp; rfl)); intro gb246 hg w14 hbox hb; have n0_ := Aside0.mk (below_step (by repeat (first | (with_reducible first | exact HB.out | apply below_alloc | apply pw_below_drewN | apply below_drew1) | exact HB.out)) hb); have n1_ := Aside0.mk (hbox); have n2_ := Aside0.mk ((by rw [hg]; exact (below_size (by repeat (first | (with_reducible first | exact HB.out | apply below_alloc | apply pw_below_drewN | apply below_drew1) | exact HB.out))) : w.heap.size ≤ gb246)); have n3_ := Aside0.mk ((by rw [hg]; exact (below_size (by repeat (first | (with_reducible first | exact HB.out | apply below_alloc | apply pw_below_drewN | apply below_drew1) | exact HB.out))) : w.heap.size ≤ gb246)); clear HB; have HB := n0_; have BK246 := n1_; have GW246 := n2_; have GE246 := n3_; clear n0_ n1_ n2_ n3_; clear hb hbox hg; have hcz15_0 : w14.cell? ⟨gb246, 0, none⟩ = some (.int .i64 a0_0) := (blk_cell BK246.out 0).trans rfl; have hcz15_1 : w14.cell? ⟨gb246, 1, none⟩ = some (.string a0_1) := (blk_cell BK246.out 1).trans rfl; have hcz15_2 : w14.cell? ⟨gb246, 2, none⟩ = some (.int .i64 a0_2) := (blk_cell BK246.out 2).trans rfl; have hcz15_3 : w14.cell? ⟨gb246, 3, none⟩ = some (.slice A0_3 l0_3.length c0_3) := (blk_cell BK246.out 3).trans rfl; have hfz15_0 := blk_frozen BK246.out 0; have hfz15_1 := blk_frozen BK246.out 1; have hfz15_2 := blk_frozen BK246.out 2; have hfz15_3 := blk_frozen BK246.out 3))
    go_ret
    exact ⟨by first | rfl | (simp [errW_none, errW_some] <;> rfl) | (simp [*, errW_none, errW_some] <;> rfl), by repeat (first | (with_reducible first | exact HB.out | apply below_alloc | apply pw_below_drewN | apply below_drew1 | refine below_set ?_ GE246.out) | exact HB.out)⟩
  ·
   rw [if_neg c3] at H
   have c3b0 : decide (1 ≤ a0_2) = false := decide_eq_false c3
   clear c3
   obtain rfl := Option.some.inj H
   go_enter Tryd.func111, Tryd.ntmps111
   go_wp2_with (first | ((with_reducible refine gate_dst (N := 1) rfl ?_); refine box_event ?hg (N := 1) ?hd (cs := #[.int .i64 a0_0, .string a0_1, .int .i64 a0_2, .slice A0_3 l0_3.length c0_3]) (t := 36) ?hr ?_; (case hd => rfl); (case hg => rfl); (case hr => first | (go_simp; done) | (go_simp; rfl)); intro gb246 hg w16 hbox hb; have n0_ := Aside0.mk (below_step (by repeat (first | (with_reducible first | exact HB.out | apply below_alloc | apply pw_below_drewN | apply below_drew1) | exact HB.out)) hb); have n1_ := Aside0.mk (hbox); have n2_ := Aside0.mk ((by rw [hg]; exact (below_size (by repeat (first | (with_reducible first | exact HB.out | apply below_alloc | apply pw_below_drewN | apply below_drew1) | exact HB.out))) : w.heap.size ≤ gb246)); have n3_ := Aside0.mk ((by rw [hg]; exact (below_size (by repeat (first | (with_reducible first | exact HB.out | apply below_alloc | apply pw_below_drewN | apply below_drew1) | exact HB.out))) : w.heap.size ≤ gb246)); clear HB; have HB := n0_; have BK246 := n1_; have GW246 := n2_; have GE246 := n3_; clear n0_ n1_ n2_ n3_; clear hb hbox hg; have hcz17_0 : w16.cell? ⟨gb246, 0, none⟩ = some (.int .i64 a0_0) := (blk_cell BK246.out 0).trans rfl; have hcz17_1 : w16.cell? ⟨gb246, 1, none⟩ = some (.string a0_1) := (blk_cell BK246.out 1).trans rfl; have hcz17_2 : w16.cell? ⟨gb246, 2, none⟩ = some (.int .i64 a0_2) := (blk_cell BK246.out 2).trans rfl; have hcz17_3 : w16.cell? ⟨gb246, 3, none⟩ = some (.slice A0_3 l0_3.length c0_3) := (blk_cell BK246.out 3).trans rfl; have hfz17_0 := blk_frozen BK246.out 0; have hfz17_1 := blk_frozen BK246.out 1; have hfz17_2 := blk_frozen BK246.out 2; have hfz17_3 := blk_frozen BK246.out 3))
   go_ret
   exact ⟨by first | rfl | (simp [errW_none, errW_some] <;> rfl) | (simp [*, errW_none, errW_some] <;> rfl), by repeat (first | (with_reducible first | exact HB.out | apply below_alloc | apply pw_below_drewN | apply below_drew1 | refine below_set ?_ GE246.out) | exact HB.out)⟩
 ·
  rw [if_neg c2] at H
  have c2b0 : (a0_0 == 12) = false := beq_eq_false_iff_ne.mpr c2
  have c2b1 : (a0_0 != 12) = true := bne_iff_ne.mpr c2
  by_cases c18 : a0_2 = 0
  ·
   rw [if_pos c18] at H
   have c18b0 : (a0_2 == 0) = true := beq_iff_eq.mpr c18
   have c18b1 : (a0_2 != 0) = false := bne_eq_false_iff_eq.mpr c18
   clear c18
   by_cases c19 : a0_0 = 1
   ·
    rw [if_pos c19] at H
    have c19b0 : (a0_0 == 1) = true := beq_iff_eq.mpr c19
    have c19b1 : (a0_0 != 1) = false := bne_eq_false_iff_eq.mpr c19
    clear c19
    obtain rfl := Option.some.inj H
    go_enter Tryd.func111, Tryd.ntmps111
    go_wp2_with (first | ((with_reducible refine gate_dst (N := 1) rfl ?_); refine box_event ?hg (N := 1) ?hd (cs := #[.int .i64 a0_0, .string a0_1, .int .i64 a0_2, .slice A0_3 l0_3.length c0_3]) (t := 36) ?hr ?_; (case hd => rfl); (case hg => rfl); (case hr => first | (go_simp; done) | (go_simp; rfl)); intro gb246 hg w20 hbox hb; have n0_ := Aside0.mk (below_step (by repeat (first | (with_reducible first | exact HB.out | apply below_alloc | apply pw_below_drewN | apply below_drew1) | exact HB.out)) hb); have n1_ := Aside0.mk (hbox); have n2_ := Aside0.mk ((by rw [hg]; exact (below_size (by repeat (first | (with_reducible first | exact HB.out | apply below_alloc | apply pw_below_drewN | apply below_drew1) | exact HB.out))) : w.heap.size ≤ gb246)); have n3_ := Aside0.mk ((by rw [hg]; exact (below_size (by repeat (first | (with_reducible first | exact HB.out | apply below_alloc | apply pw_below_drewN | apply below_drew1) | exact HB.out))) : w.heap.size ≤ gb246)); clear HB; have HB := n0_; have BK246 := n1_; have GW246 := n2_; have GE246 := n3_; clear n0_ n1_ n2_ n3_; clear hb hbox hg; have hcz21_0 : w20.cell? ⟨gb246, 0, none⟩ = some (.int .i64 a0_0) := (blk_cell BK246.out 0).trans rfl; have hcz21_1 : w20.cell? ⟨gb246, 1, none⟩ = some (.string a0_1) := (blk_cell BK246.out 1).trans rfl; have hcz21_2 : w20.cell? ⟨gb246, 2, none⟩ = some (.int .i64 a0_2) := (blk_cell BK246.out 2).trans rfl; have hcz21_3 : w20.cell? ⟨gb246, 3, none⟩ = some (.slice A0_3 l0_3.length c0_3) := (blk_cell BK246.out 3).trans rfl; have hfz21_0 := blk_frozen BK246.out 0; have hfz21_1 := blk_frozen BK246.out 1; have hfz21_2 := blk_frozen BK246.out 2; have hfz21_3 := blk_frozen BK246.out 3))
    go_ret
    exact ⟨by first | rfl | (simp [errW_none, errW_some] <;> rfl) | (simp [*, errW_none, errW_some] <;> rfl), by repeat (first | (with_reducible first | exact HB.out | apply below_alloc | apply pw_below_drewN | apply below_drew1 | refine below_set ?_ GE246.out) | exact HB.out)⟩
   ·
    rw [if_neg c19] at H
    have c19b0 : (a0_0 == 1) = false := beq_eq_false_iff_ne.mpr c19
    have c19b1 : (a0_0 != 1) = true := bne_iff_ne.mpr c19
    have HC22 := Aside0.mk H
    clear H
    go_enter Tryd.func111, Tryd.ntmps111
    go_upto_if 42 with (first | ((with_reducible refine gate_dst (N := 1) rfl ?_); refine box_event ?hg (N := 1) ?hd (cs := #[.int .i64 a0_0, .string a0_1, .int .i64 a0_2, .slice A0_3 l0_3.length c0_3]) (t := 36) ?hr ?_; (case hd => rfl); (case hg => rfl); (case hr => first | (go_simp; done) | (go_simp; rfl)); intro gb246 hg w23 hbox hb; have n0_ := Aside0.mk (below_step (by repeat (first | (with_reducible first | exact HB.out | apply below_alloc | apply pw_below_drewN | apply below_drew1) | exact HB.out)) hb); have n1_ := Aside0.mk (hbox); have n2_ := Aside0.mk ((by rw [hg]; exact (below_size (by repeat (first | (with_reducible first | exact HB.out | apply below_alloc | apply pw_below_drewN | apply below_drew1) | exact HB.out))) : w.heap.size ≤ gb246)); have n3_ := Aside0.mk ((by rw [hg]; exact (below_size (by repeat (first | (with_reducible first | exact HB.out | apply below_alloc | apply pw_below_drewN | apply below_drew1) | exact HB.out))) : w.heap.size ≤ gb246)); clear HB; have HB := n0_; have BK246 := n1_; have GW246 := n2_; have GE246 := n3_; clear n0_ n1_ n2_ n3_; clear hb hbox hg; have hcz24_0 : w23.cell? ⟨gb246, 0, none⟩ = some (.int .i64 a0_0) := (blk_cell BK246.out 0).trans rfl; have hcz24_1 : w23.cell? ⟨gb246, 1, none⟩ = some (.string a0_1) := (blk_cell BK246.out 1).trans rfl; have hcz24_2 : w23.cell? ⟨gb246, 2, none⟩ = some (.int .i64 a0_2) := (blk_cell BK246.out 2).trans rfl; have hcz24_3 : w23.cell? ⟨gb246, 3, none⟩ = some (.slice A0_3 l0_3.length c0_3) := (blk_cell BK246.out 3).trans rfl; have hfz24_0 := blk_frozen BK246.out 0; have hfz24_1 := blk_frozen BK246.out 1; have hfz24_2 := blk_frozen BK246.out 2; have hfz24_3 := blk_frozen BK246.out 3))
    (try simp only [Act.put, List.setIfInBounds_toArray, List.set_cons_zero, List.set_cons_succ])
    go_cut [42] (fun v42 wc => ∃ (kq : Nat) (x42_21 : Bool), v42 = .bool x42_21 ∧ Aside0 (vinculumref09_kids.j0 kq (l0_3.length : Int) a0_0 x42_21 = some r) ∧ Aside0 (kq ≤ k) ∧ Aside0 (wc.heap[gb246]? = some (.cells #[.int .i64 a0_0, .string a0_1, .int .i64 a0_2, (.slice A0_3 l0_3.length c0_3)] 36 (0, 0))) ∧ Aside0 (Below w.heap.size w wc))
    case first =>
     have H := HC22.out
     clear HC22
     by_cases c25 : a0_0 = 2
     ·
      rw [if_pos c25] at H
      have c25b0 : (a0_0 == 2) = true := beq_iff_eq.mpr c25
      have c25b1 : (a0_0 != 2) = false := bne_eq_false_iff_eq.mpr c25
      clear c25
      (first | rw [c25b0] | (simp only [i64_w, i32_w]; rw [c25b0]) | skip)
      have H' := Aside0.mk H
      clear H
      go_wp2
      go_meet
      case rel => exact ⟨_, ((a0_0 == 2)), (by first | rfl | (simp; done) | (simp [*]; done)), H', ⟨by first | omega | exact Nat.le_refl _⟩, ⟨by (with_reducible repeat (first | refine blk_drewN ?_ _ | refine blk_drew ?_ | refine blk_alloc ?_ _)); exact BK246.out⟩, ⟨by repeat (first | (with_reducible first | exact HB.out | apply below_alloc | apply pw_below_drewN | apply below_drew1 | refine below_set ?_ GE246.out) | exact HB.out)⟩⟩
     ·
      rw [if_neg c25] at H
      have c25b0 : (a0_0 == 2) = false := beq_eq_false_iff_ne.mpr c25
      have c25b1 : (a0_0 != 2) = true := bne_iff_ne.mpr c25
      (first | rw [c25b0] | (simp only [i64_w, i32_w]; rw [c25b0]) | skip)
      by_cases c26 : a0_0 = 3
      ·
       rw [if_pos c26] at H
       have c26b0 : (a0_0 == 3) = true := beq_iff_eq.mpr c26
       have c26b1 : (a0_0 != 3) = false := bne_eq_false_iff_eq.mpr c26
       clear c26
       have H' := Aside0.mk H
       clear H
       go_wp2
       go_meet
       case rel => exact ⟨_, ((a0_0 == 3)), (by first | rfl | (simp; done) | (simp [*]; done)), H', ⟨by first | omega | exact Nat.le_refl _⟩, ⟨by (with_reducible repeat (first | refine blk_drewN ?_ _ | refine blk_drew ?_ | refine blk_alloc ?_ _)); exact BK246.out⟩, ⟨by repeat (first | (with_reducible first | exact HB.out | apply below_alloc | apply pw_below_drewN | apply below_drew1 | refine below_set ?_ GE246.out) | exact HB.out)⟩⟩
      ·
       rw [if_neg c26] at H
       have c26b0 : (a0_0 == 3) = false := beq_eq_false_iff_ne.mpr c26
       have c26b1 : (a0_0 != 3) = true := bne_iff_ne.mpr c26
       have H' := Aside0.mk H
       clear H
       go_wp2
       go_meet
       case rel => exact ⟨_, ((a0_0 == 4)), (by first | rfl | (simp; done) | (simp [*]; done)), H', ⟨by first | omega | exact Nat.le_refl _⟩, ⟨by (with_reducible repeat (first | refine blk_drewN ?_ _ | refine blk_drew ?_ | refine blk_alloc ?_ _)); exact BK246.out⟩, ⟨by repeat (first | (with_reducible first | exact HB.out | apply below_alloc | apply pw_below_drewN | apply below_drew1 | refine below_set ?_ GE246.out) | exact HB.out)⟩⟩
    case rest =>
     clear HC22
     try clear c1
     try clear c2
     try clear c2b0
     try clear c2b1
     try clear p2
     try clear c3
     try clear c3b0
     try clear c4
     try clear c4b0
     try clear c5
     try clear c5b0
     try clear c5b1
     try clear c6
     try clear c6b0
     try clear c6b1
     try clear c7
     try clear c7b0
     try clear c7b1
     try clear c11
     try clear c18
     try clear c18b0
     try clear c18b1
     try clear c19
     try clear c19b0
     try clear c19b1
     try clear c25
     try clear c25b0
     try clear c25b1
     try clear c26
     try clear c26b0
     try clear c26b1
     try clear hcz11_0
     try clear hcz11_1
     try clear hcz11_2
     try clear hcz11_3
     try clear hcz13_0
     try clear hcz13_1
     try clear hcz13_2
     try clear hcz13_3
     try clear hcz15_0
     try clear hcz15_1
     try clear hcz15_2
     try clear hcz15_3
     try clear hcz17_0
     try clear hcz17_1
     try clear hcz17_2
     try clear hcz17_3
     try clear hcz21_0
     try clear hcz21_1
     try clear hcz21_2
     try clear hcz21_3
     try clear hcz24_0
     try clear hcz24_1
     try clear hcz24_2
     try clear hcz24_3
     try clear hcz9_0
     try clear hcz9_1
     try clear hcz9_2
     try clear hcz9_3
     try clear hfz11_0
     try clear hfz11_1
     try clear hfz11_2
     try clear hfz11_3
     try clear hfz13_0
     try clear hfz13_1
     try clear hfz13_2
     try clear hfz13_3
     try clear hfz15_0
     try clear hfz15_1
     try clear hfz15_2
     try clear hfz15_3
     try clear hfz17_0
     try clear hfz17_1
     try clear hfz17_2
     try clear hfz17_3
     try clear hfz21_0
     try clear hfz21_1
     try clear hfz21_2
     try clear hfz21_3
     try clear hfz24_0
     try clear hfz24_1
     try clear hfz24_2
     try clear hfz24_3
     try clear hfz9_0
     try clear hfz9_1
     try clear hfz9_2
     try clear hfz9_3
     obtain ⟨kq, x42_21, rfl, HA, HJ21, BK246, HB⟩ := hcut
     cases kq with
     | zero => exact absurd HA.out (by simp [vinculumref09_kids.j0])
     | succ kj21 =>
      have H := HA.out
      clear HA
      simp only [vinculumref09_kids.j0] at H
      by_cases c27 : x42_21 = true
      ·
       subst c27
       have H1 : (some ((l0_3.length : Int) == 0)) = some r := by rw [if_pos rfl] at H; exact H
       clear H
       have H := H1
       clear H1
       obtain rfl := Option.some.inj H
       go_wp2
       go_ret
       exact ⟨by first | rfl | (simp [errW_none, errW_some] <;> rfl) | (simp [*, errW_none, errW_some] <;> rfl), by repeat (first | (with_reducible first | exact HB.out | apply below_alloc | apply pw_below_drewN | apply below_drew1 | refine below_set ?_ GE246.out) | exact HB.out)⟩
      ·
       replace c27 := Bool.eq_false_iff.mpr c27
       subst c27
       have H1 : (if a0_0 = 5 then (vinculumref09_kids.j1 kj21 (l0_3.length : Int) a0_0 (a0_0 == 5)) else (if a0_0 = 6 then (vinculumref09_kids.j1 kj21 (l0_3.length : Int) a0_0 (a0_0 == 6)) else (if a0_0 = 7 then (vinculumref09_kids.j1 kj21 (l0_3.length : Int) a0_0 (a0_0 == 7)) else (vinculumref09_kids.j1 kj21 (l0_3.length : Int) a0_0 (a0_0 == 8))))) = some r := by rw [if_neg (show ¬ (false = true) by decide)] at H; exact H
       clear H
       have H := H1
       clear H1
       have HC28 := Aside0.mk H
       clear H
       go_upto_if 48 with (fail)
       go_cut [48] (fun v48 wc => ∃ (kq : Nat) (x48_27 : Bool), v48 = .bool x48_27 ∧ Aside0 (vinculumref09_kids.j1 kq (l0_3.length : Int) a0_0 x48_27 = some r) ∧ Aside0 (kq ≤ kj21) ∧ Aside0 (wc.heap[gb246]? = some (.cells #[.int .i64 a0_0, .string a0_1, .int .i64 a0_2, (.slice A0_3 l0_3.length c0_3)] 36 (0, 0))) ∧ Aside0 (Below w.heap.size w wc))
       case first =>
        have H := HC28.out
        clear HC28
        by_cases c29 : a0_0 = 5
        ·
         rw [if_pos c29] at H
         have c29b0 : (a0_0 == 5) = true := beq_iff_eq.mpr c29
         have c29b1 : (a0_0 != 5) = false := bne_eq_false_iff_eq.mpr c29
         clear c29
         (first | rw [c29b0] | (simp only [i64_w, i32_w]; rw [c29b0]) | skip)
         have H' := Aside0.mk H
         clear H
         go_wp2
         go_meet
         case rel => exact ⟨_, ((a0_0 == 5)), (by first | rfl | (simp; done) | (simp [*]; done)), H', ⟨by have := HJ21.out; first | omega | exact Nat.le_refl _⟩, ⟨by (with_reducible repeat (first | refine blk_drewN ?_ _ | refine blk_drew ?_ | refine blk_alloc ?_ _)); exact BK246.out⟩, ⟨by repeat (first | (with_reducible first | exact HB.out | apply below_alloc | apply pw_below_drewN | apply below_drew1 | refine below_set ?_ GE246.out) | exact HB.out)⟩⟩
        ·
         rw [if_neg c29] at H
         have c29b0 : (a0_0 == 5) = false := beq_eq_false_iff_ne.mpr c29
         have c29b1 : (a0_0 != 5) = true := bne_iff_ne.mpr c29
         (first | rw [c29b0] | (simp only [i64_w, i32_w]; rw [c29b0]) | skip)
         by_cases c30 : a0_0 = 6
         ·
          rw [if_pos c30] at H
          have c30b0 : (a0_0 == 6) = true := beq_iff_eq.mpr c30
          have c30b1 : (a0_0 != 6) = false := bne_eq_false_iff_eq.mpr c30
          clear c30
          have H' := Aside0.mk H
          clear H
          go_wp2
          go_meet
          case rel => exact ⟨_, ((a0_0 == 6)), (by first | rfl | (simp; done) | (simp [*]; done)), H', ⟨by have := HJ21.out; first | omega | exact Nat.le_refl _⟩, ⟨by (with_reducible repeat (first | refine blk_drewN ?_ _ | refine blk_drew ?_ | refine blk_alloc ?_ _)); exact BK246.out⟩, ⟨by repeat (first | (with_reducible first | exact HB.out | apply below_alloc | apply pw_below_drewN | apply below_drew1 | refine below_set ?_ GE246.out) | exact HB.out)⟩⟩
         ·
          rw [if_neg c30] at H
          have c30b0 : (a0_0 == 6) = false := beq_eq_false_iff_ne.mpr c30
          have c30b1 : (a0_0 != 6) = true := bne_iff_ne.mpr c30
          by_cases c31 : a0_0 = 7
          ·
           rw [if_pos c31] at H
           have c31b0 : (a0_0 == 7) = true := beq_iff_eq.mpr c31
           have c31b1 : (a0_0 != 7) = false := bne_eq_false_iff_eq.mpr c31
           clear c31
           have H' := Aside0.mk H
           clear H
           go_wp2
           go_meet
           case rel => exact ⟨_, ((a0_0 == 7)), (by first | rfl | (simp; done) | (simp [*]; done)), H', ⟨by have := HJ21.out; first | omega | exact Nat.le_refl _⟩, ⟨by (with_reducible repeat (first | refine blk_drewN ?_ _ | refine blk_drew ?_ | refine blk_alloc ?_ _)); exact BK246.out⟩, ⟨by repeat (first | (with_reducible first | exact HB.out | apply below_alloc | apply pw_below_drewN | apply below_drew1 | refine below_set ?_ GE246.out) | exact HB.out)⟩⟩
          ·
           rw [if_neg c31] at H
           have c31b0 : (a0_0 == 7) = false := beq_eq_false_iff_ne.mpr c31
           have c31b1 : (a0_0 != 7) = true := bne_iff_ne.mpr c31
           have H' := Aside0.mk H
           clear H
           go_wp2
           go_meet
           case rel => exact ⟨_, ((a0_0 == 8)), (by first | rfl | (simp; done) | (simp [*]; done)), H', ⟨by have := HJ21.out; first | omega | exact Nat.le_refl _⟩, ⟨by (with_reducible repeat (first | refine blk_drewN ?_ _ | refine blk_drew ?_ | refine blk_alloc ?_ _)); exact BK246.out⟩, ⟨by repeat (first | (with_reducible first | exact HB.out | apply below_alloc | apply pw_below_drewN | apply below_drew1 | refine below_set ?_ GE246.out) | exact HB.out)⟩⟩
       case rest =>
        clear HC28
        try clear c1
        try clear c2
        try clear c2b0
        try clear c2b1
        try clear p2
        try clear c3
        try clear c3b0
        try clear c4
        try clear c4b0
        try clear c5
        try clear c5b0
        try clear c5b1
        try clear c6
        try clear c6b0
        try clear c6b1
        try clear c7
        try clear c7b0
        try clear c7b1
        try clear c11
        try clear c18
        try clear c18b0
        try clear c18b1
        try clear c19
        try clear c19b0
        try clear c19b1
        try clear c25
        try clear c25b0
        try clear c25b1
        try clear c26
        try clear c26b0
        try clear c26b1
        try clear c27
        try clear c29
        try clear c29b0
        try clear c29b1
        try clear c30
        try clear c30b0
        try clear c30b1
        try clear c31
        try clear c31b0
        try clear c31b1
        try clear hcz11_0
        try clear hcz11_1
        try clear hcz11_2
        try clear hcz11_3
        try clear hcz13_0
        try clear hcz13_1
        try clear hcz13_2
        try clear hcz13_3
        try clear hcz15_0
        try clear hcz15_1
        try clear hcz15_2
        try clear hcz15_3
        try clear hcz17_0
        try clear hcz17_1
        try clear hcz17_2
        try clear hcz17_3
        try clear hcz21_0
        try clear hcz21_1
        try clear hcz21_2
        try clear hcz21_3
        try clear hcz24_0
        try clear hcz24_1
        try clear hcz24_2
        try clear hcz24_3
        try clear hcz9_0
        try clear hcz9_1
        try clear hcz9_2
        try clear hcz9_3
        try clear hfz11_0
        try clear hfz11_1
        try clear hfz11_2
        try clear hfz11_3
        try clear hfz13_0
        try clear hfz13_1
        try clear hfz13_2
        try clear hfz13_3
        try clear hfz15_0
        try clear hfz15_1
        try clear hfz15_2
        try clear hfz15_3
        try clear hfz17_0
        try clear hfz17_1
        try clear hfz17_2
        try clear hfz17_3
        try clear hfz21_0
        try clear hfz21_1
        try clear hfz21_2
        try clear hfz21_3
        try clear hfz24_0
        try clear hfz24_1
        try clear hfz24_2
        try clear hfz24_3
        try clear hfz9_0
        try clear hfz9_1
        try clear hfz9_2
        try clear hfz9_3
        try clear p2
        obtain ⟨kq, x48_27, rfl, HA, HJ27, BK246, HB⟩ := hcut
        cases kq with
        | zero => exact absurd HA.out (by simp [vinculumref09_kids.j1])
        | succ kj27 =>
         have H := HA.out
         clear HA
         simp only [vinculumref09_kids.j1] at H
         by_cases c32 : x48_27 = true
         ·
          subst c32
          have H1 : (some ((l0_3.length : Int) == 2)) = some r := by rw [if_pos rfl] at H; exact H
          clear H
          have H := H1
          clear H1
          obtain rfl := Option.some.inj H
          go_wp2
          go_ret
          exact ⟨by first | rfl | (simp [errW_none, errW_some] <;> rfl) | (simp [*, errW_none, errW_some] <;> rfl), by repeat (first | (with_reducible first | exact HB.out | apply below_alloc | apply pw_below_drewN | apply below_drew1 | refine below_set ?_ GE246.out) | exact HB.out)⟩
         ·
          replace c32 := Bool.eq_false_iff.mpr c32
          subst c32
          have H1 : (if a0_0 = 9 then (some ((l0_3.length : Int) == 3)) else (if a0_0 = 10 then (some ((l0_3.length : Int) == 1)) else (if a0_0 = 11 then (some ((l0_3.length : Int) == 1)) else (some false)))) = some r := by rw [if_neg (show ¬ (false = true) by decide)] at H; exact H
          clear H
          have H := H1
          clear H1
          by_cases c33 : a0_0 = 9
          ·
           rw [if_pos c33] at H
           have c33b0 : (a0_0 == 9) = true := beq_iff_eq.mpr c33
           have c33b1 : (a0_0 != 9) = false := bne_eq_false_iff_eq.mpr c33
           clear c33
           obtain rfl := Option.some.inj H
           go_wp2
           go_ret
           exact ⟨by first | rfl | (simp [errW_none, errW_some] <;> rfl) | (simp [*, errW_none, errW_some] <;> rfl), by repeat (first | (with_reducible first | exact HB.out | apply below_alloc | apply pw_below_drewN | apply below_drew1 | refine below_set ?_ GE246.out) | exact HB.out)⟩
          ·
           rw [if_neg c33] at H
           have c33b0 : (a0_0 == 9) = false := beq_eq_false_iff_ne.mpr c33
           have c33b1 : (a0_0 != 9) = true := bne_iff_ne.mpr c33
           by_cases c34 : a0_0 = 10
           ·
            rw [if_pos c34] at H
            have c34b0 : (a0_0 == 10) = true := beq_iff_eq.mpr c34
            have c34b1 : (a0_0 != 10) = false := bne_eq_false_iff_eq.mpr c34
            clear c34
            obtain rfl := Option.some.inj H
            go_wp2
            go_ret
            exact ⟨by first | rfl | (simp [errW_none, errW_some] <;> rfl) | (simp [*, errW_none, errW_some] <;> rfl), by repeat (first | (with_reducible first | exact HB.out | apply below_alloc | apply pw_below_drewN | apply below_drew1 | refine below_set ?_ GE246.out) | exact HB.out)⟩
           ·
            rw [if_neg c34] at H
            have c34b0 : (a0_0 == 10) = false := beq_eq_false_iff_ne.mpr c34
            have c34b1 : (a0_0 != 10) = true := bne_iff_ne.mpr c34
            by_cases c35 : a0_0 = 11
            ·
             rw [if_pos c35] at H
             have c35b0 : (a0_0 == 11) = true := beq_iff_eq.mpr c35
             have c35b1 : (a0_0 != 11) = false := bne_eq_false_iff_eq.mpr c35
             clear c35
             obtain rfl := Option.some.inj H
             go_wp2
             go_ret
             exact ⟨by first | rfl | (simp [errW_none, errW_some] <;> rfl) | (simp [*, errW_none, errW_some] <;> rfl), by repeat (first | (with_reducible first | exact HB.out | apply below_alloc | apply pw_below_drewN | apply below_drew1 | refine below_set ?_ GE246.out) | exact HB.out)⟩
            ·
             rw [if_neg c35] at H
             have c35b0 : (a0_0 == 11) = false := beq_eq_false_iff_ne.mpr c35
             have c35b1 : (a0_0 != 11) = true := bne_iff_ne.mpr c35
             obtain rfl := Option.some.inj H
             go_wp2
             go_ret
             exact ⟨by first | rfl | (simp [errW_none, errW_some] <;> rfl) | (simp [*, errW_none, errW_some] <;> rfl), by repeat (first | (with_reducible first | exact HB.out | apply below_alloc | apply pw_below_drewN | apply below_drew1 | refine below_set ?_ GE246.out) | exact HB.out)⟩
  ·
   rw [if_neg c18] at H
   have c18b0 : (a0_2 == 0) = false := beq_eq_false_iff_ne.mpr c18
   have c18b1 : (a0_2 != 0) = true := bne_iff_ne.mpr c18
   obtain rfl := Option.some.inj H
   go_enter Tryd.func111, Tryd.ntmps111
   go_wp2_with (first | ((with_reducible refine gate_dst (N := 1) rfl ?_); refine box_event ?hg (N := 1) ?hd (cs := #[.int .i64 a0_0, .string a0_1, .int .i64 a0_2, .slice A0_3 l0_3.length c0_3]) (t := 36) ?hr ?_; (case hd => rfl); (case hg => rfl); (case hr => first | (go_simp; done) | (go_simp; rfl)); intro gb246 hg w36 hbox hb; have n0_ := Aside0.mk (below_step (by repeat (first | (with_reducible first | exact HB.out | apply below_alloc | apply pw_below_drewN | apply below_drew1) | exact HB.out)) hb); have n1_ := Aside0.mk (hbox); have n2_ := Aside0.mk ((by rw [hg]; exact (below_size (by repeat (first | (with_reducible first | exact HB.out | apply below_alloc | apply pw_below_drewN | apply below_drew1) | exact HB.out))) : w.heap.size ≤ gb246)); have n3_ := Aside0.mk ((by rw [hg]; exact (below_size (by repeat (first | (with_reducible first | exact HB.out | apply below_alloc | apply pw_below_drewN | apply below_drew1) | exact HB.out))) : w.heap.size ≤ gb246)); clear HB; have HB := n0_; have BK246 := n1_; have GW246 := n2_; have GE246 := n3_; clear n0_ n1_ n2_ n3_; clear hb hbox hg; have hcz37_0 : w36.cell? ⟨gb246, 0, none⟩ = some (.int .i64 a0_0) := (blk_cell BK246.out 0).trans rfl; have hcz37_1 : w36.cell? ⟨gb246, 1, none⟩ = some (.string a0_1) := (blk_cell BK246.out 1).trans rfl; have hcz37_2 : w36.cell? ⟨gb246, 2, none⟩ = some (.int .i64 a0_2) := (blk_cell BK246.out 2).trans rfl; have hcz37_3 : w36.cell? ⟨gb246, 3, none⟩ = some (.slice A0_3 l0_3.length c0_3) := (blk_cell BK246.out 3).trans rfl; have hfz37_0 := blk_frozen BK246.out 0; have hfz37_1 := blk_frozen BK246.out 1; have hfz37_2 := blk_frozen BK246.out 2; have hfz37_3 := blk_frozen BK246.out 3))
   go_ret
   exact ⟨by first | rfl | (simp [errW_none, errW_some] <;> rfl) | (simp [*, errW_none, errW_some] <;> rfl), by repeat (first | (with_reducible first | exact HB.out | apply below_alloc | apply pw_below_drewN | apply below_drew1 | refine below_set ?_ GE246.out) | exact HB.out)⟩
end Go.Proofs.YtagkhoeidjlahaaDoor.G
