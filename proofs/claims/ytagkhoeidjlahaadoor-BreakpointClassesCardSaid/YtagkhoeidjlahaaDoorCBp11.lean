-- Written by pack2.py, a program of this session: this session's texts and those that the kit's printer wrote for this claim, pruned to what the claims use.
import Derived.Test.YtagkhoeidjlahaaDoorCBp2
import Derived.Test.YtagkhoeidjlahaaDoorCBp3
import Derived.Test.YtagkhoeidjlahaaDoorCBp10
namespace Go.Proofs.YtagkhoeidjlahaaDoor.G
open Go.RowKit Go.Proofs.YtagkhoeidjlahaaDoorW.PrintWords Go.Proofs.YtagkhoeidjlahaaDoorW.PrintLast Go.Proofs.YtagkhoeidjlahaaDoorW.PrintMore
attribute [local go_sem] max2_int min2_int max_two min_two max_three min_three max_four min_four
set_option linter.unusedVariables false
set_option linter.unusedSimpArgs false
def node_ValidItems.f (k : Nat) (l0 : List (S36)) : Option (Bool) := (node_Valid.f k 1 (⟨#[]⟩ : ByteArray) 0 l0).bind fun t129 => (some t129)
set_option maxHeartbeats 8000000 in
set_option maxRecDepth 100000 in
theorem node_ValidItems.calls (k : Nat) (A0 : Option Addr) (c0 : Nat) (l0 : List (S36)) (r : Bool) (w : World) (hr0 : Kd.C k36 w A0 l0.length l0) (hc0 : l0.length ≤ c0) (h : node_ValidItems.f k l0 = some r) :
    Calls Tryd.prog 88 #[.slice A0 l0.length c0] w fun e w' => e = .returned (.bool r) ∧ Below w.heap.size w w' := by
  have hu36 := Tryd.underlying36
  have HR0 := Aside0.mk hr0
  have HC0 := Aside0.mk hc0
  clear hr0 hc0
  have HB := Aside0.mk (Below.refl w.heap.size w)
  have H : ((node_Valid.f k 1 (⟨#[]⟩ : ByteArray) 0 l0).bind fun t129 => (some t129)) = some r := h
  clear h
  replace H := Option.bind_eq_some_iff.mp H
  obtain ⟨t129, A20, H⟩ := H
  replace H : (some t129) = some r := H
  have A2 := Aside0.mk A20
  clear A20
  obtain rfl := Option.some.inj H
  go_enter Tryd.func88, Tryd.ntmps88
  go_wp2_with (first | ((with_reducible refine gate_callee (f := 72) rfl ?_); refine goesL_ (some 5) rfl rfl Tryd.func72 (by kernel_rfl) rfl #[.agg #[.int .i64 1, .string (⟨#[]⟩ : ByteArray), .int .i64 0, .slice A0 l0.length c0]] rfl (by (try simp only [List.map_toArray, List.map_cons, List.map_nil]); first | done | rfl | (simp only [List.length_drop, List.length_take]; rfl)) ?_; (with_reducible refine (node_Valid.calls k 1 (⟨#[]⟩ : ByteArray) 0 _ _ l0 t129 _ ?side1 ?side2 A2.out).mono ?_); (case side1 => repeat (first | exact HR0.out | (with_reducible refine Kd.C_alloc ?_ _) | (with_reducible refine Kd.C_drewN ?_ _) | (with_reducible refine Kd.C_drew ?_))); (case side2 => exact HC0.out); rintro e w3 ⟨rfl, hb⟩; refine ⟨_, rfl, ?_⟩; have n0_ := Aside0.mk (below_step (by repeat (first | (with_reducible first | exact HB.out | apply below_alloc | apply pw_below_drewN | apply below_drew1) | exact HB.out)) hb); clear HB; have HB := n0_; clear n0_; (try clear hb); (try clear hb2); (try clear hk); (try clear hi)))
  go_ret
  exact ⟨by first | rfl | (simp [errW_none, errW_some] <;> rfl) | (simp [*, errW_none, errW_some] <;> rfl), by repeat (first | (with_reducible first | exact HB.out | apply below_alloc | apply pw_below_drewN | apply below_drew1) | exact HB.out)⟩
end Go.Proofs.YtagkhoeidjlahaaDoor.G
namespace Go.Proofs.YtagkhoeidjlahaaDoor.G
open Go.RowKit Go.Proofs.YtagkhoeidjlahaaDoorW.PrintWords Go.Proofs.YtagkhoeidjlahaaDoorW.PrintLast Go.Proofs.YtagkhoeidjlahaaDoorW.PrintMore
attribute [local go_sem] max2_int min2_int max_two min_two max_three min_three max_four min_four
set_option linter.unusedVariables false
set_option linter.unusedSimpArgs false
def opdict_index.f (l0 : List (S68)) (a1 : ByteArray) : Option Int := if l0.length < 17592186044416 then some (idxE a1 l0 0) else none
set_option maxHeartbeats 2000000 in
set_option maxRecDepth 100000 in

theorem opdict_index.calls (A0 : Option Addr) (c0 : Nat) (l0 : List (S68)) (a1 : ByteArray) (r : Int) (w : World) (hr0 : Kd.C k68 w A0 l0.length l0) (hc0 : l0.length ≤ c0) (h : opdict_index.f l0 a1 = some r) :
    Calls Tryd.prog 123 #[.slice A0 l0.length c0, .string a1] w fun e w' => e = .returned (.int .i64 r) ∧ Below w.heap.size w w' := by
  unfold opdict_index.f at h
  split at h
  case isFalse => cases h
  obtain rfl := Option.some.inj h
  have X0 := blk_cell (blk_new w (.cells #[.string a1] 9)) 0
  have H := Aside0.mk (ixe_calls A0 c0 l0 w.heap.size a1 (w.alloc (.cells #[.string a1] 9)) (Kd.C_alloc hr0 _) (by rw [World.size_alloc]; omega) (X0.trans rfl))
  clear X0 hr0 hc0 h
  go_enter Tryd.func123, Tryd.ntmps123
  go_wp2_with fail
  refine H.out.mono ?_
  rintro e w2 ⟨rfl, hb⟩
  have HB2 := Aside0.mk (below_step (below_alloc (Below.refl w.heap.size w) _) hb)
  clear hb
  go_wp2
  go_ret
  exact ⟨rfl, HB2.out⟩
end Go.Proofs.YtagkhoeidjlahaaDoor.G
namespace Go.Proofs.YtagkhoeidjlahaaDoor.G
open Go.RowKit Go.Proofs.YtagkhoeidjlahaaDoorW.PrintWords Go.Proofs.YtagkhoeidjlahaaDoorW.PrintLast Go.Proofs.YtagkhoeidjlahaaDoorW.PrintMore
attribute [local go_sem] max2_int min2_int max_two min_two max_three min_three max_four min_four
set_option linter.unusedVariables false
set_option linter.unusedSimpArgs false
def opdict_Find.f (l0 : List (S68)) (a1 : ByteArray) : Option (ByteArray × Int × Bool × Bool) := (opdict_index.f l0 a1).bind fun t131 => (if t131 ≥ 0 then (if 0 ≤ t131 then (if t131 < (l0.length : Int) then (some ((rd_T68 l0 t131).f0, (rd_T68 l0 t131).f1, (rd_T68 l0 t131).f2, (rd_T68 l0 t131).f3)) else (none)) else (none)) else (some (a1, 0, false, false)))
set_option maxHeartbeats 8000000 in
set_option maxRecDepth 100000 in
theorem opdict_Find.calls (A0 : Option Addr) (c0 : Nat) (l0 : List (S68)) (a1 : ByteArray) (r1 : ByteArray) (r2 : Int) (r3 : Bool) (r4 : Bool) (w : World) (hr0 : Kd.C k68 w A0 l0.length l0) (hc0 : l0.length ≤ c0) (h : opdict_Find.f l0 a1 = some (r1, r2, r3, r4)) :
    Calls Tryd.prog 109 #[.slice A0 l0.length c0, .string a1] w fun e w' => e = .returned (.agg #[.string r1, .int .i64 r2, .bool r3, .bool r4]) ∧ Below w.heap.size w w' := by
  have hu68 := Tryd.underlying68
  have HR0 := Aside0.mk hr0
  have HC0 := Aside0.mk hc0
  clear hr0 hc0
  have HB := Aside0.mk (Below.refl w.heap.size w)
  have H : ((opdict_index.f l0 a1).bind fun t131 => (if t131 ≥ 0 then (if 0 ≤ t131 then (if t131 < (l0.length : Int) then (some ((rd_T68 l0 t131).f0, (rd_T68 l0 t131).f1, (rd_T68 l0 t131).f2, (rd_T68 l0 t131).f3)) else (none)) else (none)) else (some (a1, 0, false, false)))) = some (r1, r2, r3, r4) := h
  clear h
  replace H := Option.bind_eq_some_iff.mp H
  obtain ⟨t131, A30, H⟩ := H
  replace H : (if t131 ≥ 0 then (if 0 ≤ t131 then (if t131 < (l0.length : Int) then (some ((rd_T68 l0 t131).f0, (rd_T68 l0 t131).f1, (rd_T68 l0 t131).f2, (rd_T68 l0 t131).f3)) else (none)) else (none)) else (some (a1, 0, false, false))) = some (r1, r2, r3, r4) := H
  have A3 := Aside0.mk A30
  clear A30
  by_cases c4 : t131 ≥ 0
  · rw [if_pos c4] at H
    have c4b0 : decide (0 ≤ t131) = true := decide_eq_true c4
    clear c4
    by_cases c5 : 0 ≤ t131
    · rw [if_pos c5] at H
      have c5b0 : decide (0 ≤ t131) = true := decide_eq_true c5
      clear c5
      by_cases c6 : t131 < (l0.length : Int)
      · rw [if_pos c6] at H
        have c6b0 : decide (t131 < (l0.length : Int)) = true := decide_eq_true c6
        clear c6
        simp only [Option.some.injEq, Prod.mk.injEq] at H
        obtain ⟨rfl, rfl, rfl, rfl⟩ := H
        go_enter Tryd.func109, Tryd.ntmps109
        go_wp2_with (first | ((with_reducible refine gate_dst (N := 4) rfl ?_); refine box_event ?hg (N := 4) ?hd (cs := #[.string (⟨#[]⟩ : ByteArray), .int .i64 0, .bool false, .bool false]) (t := 68) ?hr ?_; (case hd => rfl); (case hg => rfl); (case hr => first | (go_simp; done) | (go_simp; rfl)); intro gb130 hg w7 hbox hb; have n0_ := Aside0.mk (below_step (by repeat (first | (with_reducible first | exact HB.out | apply below_alloc | apply pw_below_drewN | apply below_drew1) | exact HB.out)) hb); have n1_ := Aside0.mk (hbox); have n2_ := Aside0.mk ((by rw [hg]; exact (below_size (by repeat (first | (with_reducible first | exact HB.out | apply below_alloc | apply pw_below_drewN | apply below_drew1) | exact HB.out))) : w.heap.size ≤ gb130)); have n3_ := Aside0.mk ((by rw [hg]; exact (below_size (by repeat (first | (with_reducible first | exact HB.out | apply below_alloc | apply pw_below_drewN | apply below_drew1) | exact HB.out))) : w.heap.size ≤ gb130)); clear HB; have HB := n0_; have BK130 := n1_; have GW130 := n2_; have GE130 := n3_; clear n0_ n1_ n2_ n3_; clear hb hbox hg) | ((with_reducible refine gate_callee (f := 123) rfl ?_); refine goesL_ (some 8) rfl rfl Tryd.func123 (by kernel_rfl) rfl #[.slice A0 l0.length c0, .string a1] rfl (by (try simp only [List.map_toArray, List.map_cons, List.map_nil]); first | done | rfl | (simp only [List.length_drop, List.length_take]; rfl)) ?_; (with_reducible refine (opdict_index.calls _ _ l0 a1 t131 _ ?side1 ?side2 A3.out).mono ?_); (case side1 => repeat (first | exact (Kd.C_below HR0.out HB.out) | (with_reducible refine Kd.C_alloc ?_ _) | (with_reducible refine Kd.C_drewN ?_ _) | (with_reducible refine Kd.C_drew ?_))); (case side2 => exact HC0.out); rintro e w8 ⟨rfl, hb⟩; refine ⟨_, rfl, ?_⟩; have n0_ := Aside0.mk (blk_below (g := gb130) (o := .cells #[.string (⟨#[]⟩ : ByteArray), .int .i64 0, .bool false, .bool false] 68 (0, 0)) (by (with_reducible repeat (first | refine blk_drewN ?_ _ | refine blk_drew ?_ | refine blk_alloc ?_ _)); exact BK130.out) hb); have n1_ := Aside0.mk (below_step (by repeat (first | (with_reducible first | exact HB.out | apply below_alloc | apply pw_below_drewN | apply below_drew1 | refine below_set ?_ GE130.out) | exact HB.out)) hb); clear BK130; clear HB; have BK130 := n0_; have HB := n1_; clear n0_ n1_; (try clear hb); (try clear hb2); (try clear hk); (try clear hi); have p132 : 0 ≤ (t131 : Int) := of_decide_eq_true (by first | (with_reducible assumption) | assumption); have q132 : t131 < (l0.length : Int) := of_decide_eq_true (by first | (with_reducible assumption) | assumption); obtain ⟨ad132, e132, hx132_0, hx132_1, hx132_2, hx132_3⟩ := at_T68 HR0.out t131 p132 q132; cases e132; replace hx132_0 := (HB.out.cell (World.block_lt_of_cell? w _ hx132_0)).trans hx132_0; replace hx132_1 := (HB.out.cell (World.block_lt_of_cell? w _ hx132_1)).trans hx132_1; replace hx132_2 := (HB.out.cell (World.block_lt_of_cell? w _ hx132_2)).trans hx132_2; replace hx132_3 := (HB.out.cell (World.block_lt_of_cell? w _ hx132_3)).trans hx132_3; replace p132 := eq_true p132; replace q132 := eq_true q132; have hcz9_0 : w8.cell? ⟨gb130, 0, none⟩ = some (.string (⟨#[]⟩ : ByteArray)) := (blk_cell BK130.out 0).trans rfl; have hcz9_1 : w8.cell? ⟨gb130, 1, none⟩ = some (.int .i64 0) := (blk_cell BK130.out 1).trans rfl; have hcz9_2 : w8.cell? ⟨gb130, 2, none⟩ = some (.bool false) := (blk_cell BK130.out 2).trans rfl; have hcz9_3 : w8.cell? ⟨gb130, 3, none⟩ = some (.bool false) := (blk_cell BK130.out 3).trans rfl; have hfz9_0 := blk_frozen BK130.out 0; have hfz9_1 := blk_frozen BK130.out 1; have hfz9_2 := blk_frozen BK130.out 2; have hfz9_3 := blk_frozen BK130.out 3))
        refine bodyPost_ret (results_cell_row rfl _ _ gb130 68 #[.string ((rd_T68 l0 t131).f0), .int .i64 ((rd_T68 l0 t131).f1), .bool ((rd_T68 l0 t131).f2), .bool ((rd_T68 l0 t131).f3)] (0, 0) _ rfl (by (with_reducible repeat (first | refine blk_drewN ?_ _ | refine blk_drew ?_ | refine blk_alloc ?_ _)); refine blk_put (cs := #[.string ((rd_T68 l0 t131).f0), .int .i64 ((rd_T68 l0 t131).f1), .bool ((rd_T68 l0 t131).f2), .bool false]) ?_ 3 _ rfl; (with_reducible repeat (first | refine blk_drewN ?_ _ | refine blk_drew ?_ | refine blk_alloc ?_ _)); refine blk_put (cs := #[.string ((rd_T68 l0 t131).f0), .int .i64 ((rd_T68 l0 t131).f1), .bool false, .bool false]) ?_ 2 _ rfl; (with_reducible repeat (first | refine blk_drewN ?_ _ | refine blk_drew ?_ | refine blk_alloc ?_ _)); refine blk_put (cs := #[.string ((rd_T68 l0 t131).f0), .int .i64 0, .bool false, .bool false]) ?_ 1 _ rfl; (with_reducible repeat (first | refine blk_drewN ?_ _ | refine blk_drew ?_ | refine blk_alloc ?_ _)); refine blk_put (cs := #[.string (⟨#[]⟩ : ByteArray), .int .i64 0, .bool false, .bool false]) ?_ 0 _ rfl; (with_reducible repeat (first | refine blk_drewN ?_ _ | refine blk_drew ?_ | refine blk_alloc ?_ _)); exact BK130.out) Tryd.underlying68 rfl (by kernel_rfl)) rfl ?_
        exact ⟨by first | rfl | (simp [errW_none, errW_some] <;> rfl) | (simp [*, errW_none, errW_some] <;> rfl), by repeat (first | (with_reducible first | exact HB.out | apply below_alloc | apply pw_below_drewN | apply below_drew1 | refine below_set ?_ GE130.out) | exact HB.out)⟩
      · rw [if_neg c6] at H
        exact absurd H (by simp)
    · rw [if_neg c5] at H
      exact absurd H (by simp)
  · rw [if_neg c4] at H
    have c4b0 : decide (0 ≤ t131) = false := decide_eq_false c4
    clear c4
    simp only [Option.some.injEq, Prod.mk.injEq] at H
    obtain ⟨rfl, rfl, rfl, rfl⟩ := H
    go_enter Tryd.func109, Tryd.ntmps109
    go_wp2_with (first | ((with_reducible refine gate_dst (N := 4) rfl ?_); refine box_event ?hg (N := 4) ?hd (cs := #[.string (⟨#[]⟩ : ByteArray), .int .i64 0, .bool false, .bool false]) (t := 68) ?hr ?_; (case hd => rfl); (case hg => rfl); (case hr => first | (go_simp; done) | (go_simp; rfl)); intro gb130 hg w10 hbox hb; have n0_ := Aside0.mk (below_step (by repeat (first | (with_reducible first | exact HB.out | apply below_alloc | apply pw_below_drewN | apply below_drew1) | exact HB.out)) hb); have n1_ := Aside0.mk (hbox); have n2_ := Aside0.mk ((by rw [hg]; exact (below_size (by repeat (first | (with_reducible first | exact HB.out | apply below_alloc | apply pw_below_drewN | apply below_drew1) | exact HB.out))) : w.heap.size ≤ gb130)); have n3_ := Aside0.mk ((by rw [hg]; exact (below_size (by repeat (first | (with_reducible first | exact HB.out | apply below_alloc | apply pw_below_drewN | apply below_drew1) | exact HB.out))) : w.heap.size ≤ gb130)); clear HB; have HB := n0_; have BK130 := n1_; have GW130 := n2_; have GE130 := n3_; clear n0_ n1_ n2_ n3_; clear hb hbox hg) | ((with_reducible refine gate_callee (f := 123) rfl ?_); refine goesL_ (some 8) rfl rfl Tryd.func123 (by kernel_rfl) rfl #[.slice A0 l0.length c0, .string a1] rfl (by (try simp only [List.map_toArray, List.map_cons, List.map_nil]); first | done | rfl | (simp only [List.length_drop, List.length_take]; rfl)) ?_; (with_reducible refine (opdict_index.calls _ _ l0 a1 t131 _ ?side1 ?side2 A3.out).mono ?_); (case side1 => repeat (first | exact (Kd.C_below HR0.out HB.out) | (with_reducible refine Kd.C_alloc ?_ _) | (with_reducible refine Kd.C_drewN ?_ _) | (with_reducible refine Kd.C_drew ?_))); (case side2 => exact HC0.out); rintro e w11 ⟨rfl, hb⟩; refine ⟨_, rfl, ?_⟩; have n0_ := Aside0.mk (blk_below (g := gb130) (o := .cells #[.string (⟨#[]⟩ : ByteArray), .int .i64 0, .bool false, .bool false] 68 (0, 0)) (by (with_reducible repeat (first | refine blk_drewN ?_ _ | refine blk_drew ?_ | refine blk_alloc ?_ _)); exact BK130.out) hb); have n1_ := Aside0.mk (below_step (by repeat (first | (with_reducible first | exact HB.out | apply below_alloc | apply pw_below_drewN | apply below_drew1 | refine below_set ?_ GE130.out) | exact HB.out)) hb); clear BK130; clear HB; have BK130 := n0_; have HB := n1_; clear n0_ n1_; (try clear hb); (try clear hb2); (try clear hk); (try clear hi); have hcz12_0 : w11.cell? ⟨gb130, 0, none⟩ = some (.string (⟨#[]⟩ : ByteArray)) := (blk_cell BK130.out 0).trans rfl; have hcz12_1 : w11.cell? ⟨gb130, 1, none⟩ = some (.int .i64 0) := (blk_cell BK130.out 1).trans rfl; have hcz12_2 : w11.cell? ⟨gb130, 2, none⟩ = some (.bool false) := (blk_cell BK130.out 2).trans rfl; have hcz12_3 : w11.cell? ⟨gb130, 3, none⟩ = some (.bool false) := (blk_cell BK130.out 3).trans rfl; have hfz12_0 := blk_frozen BK130.out 0; have hfz12_1 := blk_frozen BK130.out 1; have hfz12_2 := blk_frozen BK130.out 2; have hfz12_3 := blk_frozen BK130.out 3))
    refine bodyPost_ret (results_cell_row rfl _ _ gb130 68 #[.string a1, .int .i64 0, .bool false, .bool false] (0, 0) _ rfl (by (with_reducible repeat (first | refine blk_drewN ?_ _ | refine blk_drew ?_ | refine blk_alloc ?_ _)); refine blk_put (cs := #[.string a1, .int .i64 0, .bool false, .bool false]) ?_ 3 _ rfl; (with_reducible repeat (first | refine blk_drewN ?_ _ | refine blk_drew ?_ | refine blk_alloc ?_ _)); refine blk_put (cs := #[.string a1, .int .i64 0, .bool false, .bool false]) ?_ 2 _ rfl; (with_reducible repeat (first | refine blk_drewN ?_ _ | refine blk_drew ?_ | refine blk_alloc ?_ _)); refine blk_put (cs := #[.string a1, .int .i64 0, .bool false, .bool false]) ?_ 1 _ rfl; (with_reducible repeat (first | refine blk_drewN ?_ _ | refine blk_drew ?_ | refine blk_alloc ?_ _)); refine blk_put (cs := #[.string (⟨#[]⟩ : ByteArray), .int .i64 0, .bool false, .bool false]) ?_ 0 _ rfl; (with_reducible repeat (first | refine blk_drewN ?_ _ | refine blk_drew ?_ | refine blk_alloc ?_ _)); exact BK130.out) Tryd.underlying68 rfl (by kernel_rfl)) rfl ?_
    exact ⟨by first | rfl | (simp [errW_none, errW_some] <;> rfl) | (simp [*, errW_none, errW_some] <;> rfl), by repeat (first | (with_reducible first | exact HB.out | apply below_alloc | apply pw_below_drewN | apply below_drew1 | refine below_set ?_ GE130.out) | exact HB.out)⟩
end Go.Proofs.YtagkhoeidjlahaaDoor.G
namespace Go.Proofs.YtagkhoeidjlahaaDoor.G
open Go.RowKit Go.Proofs.YtagkhoeidjlahaaDoorW.PrintWords Go.Proofs.YtagkhoeidjlahaaDoorW.PrintLast Go.Proofs.YtagkhoeidjlahaaDoorW.PrintMore
attribute [local go_sem] max2_int min2_int max_two min_two max_three min_three max_four min_four
set_option linter.unusedVariables false
set_option linter.unusedSimpArgs false
section cls
def cls (d : List (S68)) : Nat → S36 → Option Int
  | 0, _ => none
  | k + 1, x => if x.f0 = 2 then (opdict_Find.f d x.f1).map (fun r => r.2.1) else if x.f0 = 7 ∨ x.f0 = 8 ∨ x.f0 = 9 then (if 0 < x.f3.length then (if (rd_T36 x.f3 0).f3.length = 1 then cls d k (rd_T36 (rd_T36 x.f3 0).f3 0) else some 0) else some 0) else if x.f0 = 5 ∨ x.f0 = 11 ∨ x.f0 = 12 then some 7 else some 0
theorem cls.mono (d : List (S68)) : ∀ (k : Nat) (x : S36), LeO (cls d k x) (cls d (k + 1) x) := by
  intro k
  induction k with
  | zero => intro x r h; simp [cls] at h
  | succ k ih => intro x; rw [cls, cls]; exact LeO.ite (LeO.refl _) (LeO.ite (LeO.ite (LeO.ite (ih _) (LeO.refl _)) (LeO.refl _)) (LeO.refl _))
set_option maxHeartbeats 8000000 in
set_option maxRecDepth 100000 in
theorem cls_calls (d : List (S68)) (Ad : Option Addr) (cd bd bf : Nat) (k : Nat) : ∀ (x : S36) (A : Option Addr) (c : Nat) (v : Int) (w : World) (hbd : w.heap[bd]? = some (.cells #[.slice Ad d.length cd] 22 (0, 0)))
    (hbf : w.heap[bf]? = some (.cells #[.func (.func 108) #[] #[.pointer (some ⟨bd, 0, none⟩), .pointer (some ⟨bf, 0, none⟩)]] 51 (0, 0)))
    (hD : Kd.C k68 w Ad d.length d) (hcd : d.length ≤ cd) (hC : Kd.C k36 w A x.f3.length x.f3) (hc : x.f3.length ≤ c) (h : cls d k x = some v),
    Calls Tryd.prog 108 #[.agg #[.int .i64 x.f0, .string x.f1, .int .i64 x.f2, .slice A x.f3.length c], .pointer (some ⟨bd, 0, none⟩), .pointer (some ⟨bf, 0, none⟩)] w fun e w' => e = .returned (.int .i64 v) ∧ Below w.heap.size w w' := by
  have hu36 := Tryd.underlying36
  have hu68 := Tryd.underlying68
  have hfd : ∀ (x0 x1 x2 x3 : Value) (W : World), (Instr.field 68 (.agg #[x0, x1, x2, x3]) 1).run Tryd.prog W = .ok x1 W := fun _ _ _ _ _ => by kernel_rfl
  induction k with
  | zero => intro x A c v w _ _ _ _ _ _ h; simp [cls] at h
  | succ k ih =>
  intro x A c v w hbd hbf hD hcd hC hc h
  rcases x with ⟨x0, x1, x2, x3⟩
  simp only at hC hc ⊢
  rw [cls] at h
  simp only at h
  have IH := Aside0.mk ih
  have HBD := Aside0.mk hbd
  have HBF := Aside0.mk hbf
  have HD := Aside0.mk hD
  have HCD := Aside0.mk hcd
  have HC := Aside0.mk hC
  have HCC := Aside0.mk hc
  have hm := hC.2.1
  have HB0 := Aside0.mk (below_alloc (Below.refl w.heap.size w) (.cells #[.int .i64 x0, .string x1, .int .i64 x2, .slice A x3.length c] 36))
  have y1 : (w.alloc (.cells #[.int .i64 x0, .string x1, .int .i64 x2, .slice A x3.length c] 36)).cell? ⟨bd, 0, none⟩ = some (.slice Ad d.length cd) := (blk_cell (blk_alloc hbd _) 0).trans rfl
  have y2 : (w.alloc (.cells #[.int .i64 x0, .string x1, .int .i64 x2, .slice A x3.length c] 36)).cell? ⟨bf, 0, none⟩ = some (.func (.func 108) #[] #[.pointer (some ⟨bd, 0, none⟩), .pointer (some ⟨bf, 0, none⟩)]) := (blk_cell (blk_alloc hbf _) 0).trans rfl
  have l1 := blk_lt hbd
  have l2 := blk_lt hbf
  have n1 : bd ≠ w.heap.size := by omega
  have n2 : bf ≠ w.heap.size := by omega
  clear ih hbd hbf hD hcd hC hc l1 l2
  by_cases k2 : x0 = 2
  · subst k2
    rw [if_pos rfl] at h
    obtain ⟨⟨r1, r2, r3, r4⟩, hf, hv⟩ := Option.map_eq_some_iff.1 h
    simp only at hv
    subst hv
    have HF := Aside0.mk hf
    clear hf h
    go_enter Tryd.func108, Tryd.ntmps108
    go_wp2_with fail
    refine (opdict_Find.calls Ad cd d x1 r1 r2 r3 r4 _ (Kd.C_below HD.out HB0.out) HCD.out HF.out).mono ?_
    rintro e w2 ⟨rfl, hb⟩
    have HB2 := Aside0.mk (below_step HB0.out hb)
    clear hb
    go_wp2
    go_ret
    exact ⟨rfl, HB2.out⟩
  rw [if_neg k2] at h
  have e2 : (x0 == 2) = false := beq_eq_false_iff_ne.2 k2
  by_cases k7 : x0 = 7 ∨ x0 = 8 ∨ x0 = 9
  · rw [if_pos k7] at h
    by_cases hl : 0 < x3.length
    · rw [if_pos hl] at h
      have d1 : decide (0 < (x3.length : Int)) = true := decide_eq_true (by omega)
      obtain ⟨ad, A3, c3, e0, q0, q1, q2, q3, hle, hie⟩ := at_T36 (Kd.C_below HC.out HB0.out) 0 (by omega) (by omega)
      subst e0
      have ea : ad.add 0 = ad := by unfold Addr.add; split <;> simp_all
      simp only [Int.toNat_zero, Nat.zero_mul, ea] at q0 q1 q2 q3
      clear ea
      by_cases h1 : (rd_T36 x3 0).f3.length = 1
      · rw [if_pos h1] at h
        have d2 : (((rd_T36 x3 0).f3.length : Int) == 1) = true := by simp; omega
        have d3 : decide (0 < ((rd_T36 x3 0).f3.length : Int)) = true := decide_eq_true (by omega)
        obtain ⟨ad2, A4, c4, e1, z0, z1, z2, z3, hle2, hie2⟩ := at_T36 hie 0 (by omega) (by omega)
        subst e1
        have ea : ad2.add 0 = ad2 := by unfold Addr.add; split <;> simp_all
        simp only [Int.toNat_zero, Nat.zero_mul, ea] at z0 z1 z2 z3
        clear ea
        have HI := Aside0.mk (IH.out _ A4 c4 v _ (blk_drew (blk_alloc HBD.out _)) (blk_drew (blk_alloc HBF.out _)) (Kd.C_drew (Kd.C_below HD.out HB0.out)) HCD.out (Kd.C_drew hie2) hle2 h)
        clear h hie hle hie2 hle2
        rcases k7 with rfl | rfl | rfl
        all_goals
          go_enter Tryd.func108, Tryd.ntmps108
          go_wp2
          go_region_with (go_at_call 108; refine HI.out.mono ?_; rintro e w2 ⟨rfl, hb⟩; have HB2 := Aside0.mk (below_step (below_drew1 HB0.out) hb); clear hb)
          all_goals
            go_wp2
            go_ret
            exact ⟨rfl, HB2.out⟩
      · rw [if_neg h1] at h
        have d2 : (((rd_T36 x3 0).f3.length : Int) == 1) = false := by simp; omega
        obtain rfl := Option.some.inj h
        clear h
        rcases k7 with rfl | rfl | rfl
        all_goals
          go_enter Tryd.func108, Tryd.ntmps108
          go_wp2
          go_ret
          exact ⟨rfl, HB0.out⟩
    · rw [if_neg hl] at h
      obtain rfl := Option.some.inj h
      have d1 : decide (0 < (x3.length : Int)) = false := decide_eq_false (by omega)
      clear h
      rcases k7 with rfl | rfl | rfl
      all_goals
        go_enter Tryd.func108, Tryd.ntmps108
        go_wp2
        go_ret
        exact ⟨rfl, HB0.out⟩
  rw [if_neg k7] at h
  have e7 : (x0 == 7) = false := beq_eq_false_iff_ne.2 (by omega)
  have e8 : (x0 == 8) = false := beq_eq_false_iff_ne.2 (by omega)
  have e9 : (x0 == 9) = false := beq_eq_false_iff_ne.2 (by omega)
  by_cases k5 : x0 = 5 ∨ x0 = 11 ∨ x0 = 12
  · rw [if_pos k5] at h
    obtain rfl := Option.some.inj h
    clear h e7 e8 e9 e2 k7 k2
    rcases k5 with rfl | rfl | rfl
    all_goals
      go_enter Tryd.func108, Tryd.ntmps108
      go_wp2
      go_ret
      exact ⟨rfl, HB0.out⟩
  · rw [if_neg k5] at h
    obtain rfl := Option.some.inj h
    have e5 : (x0 == 5) = false := beq_eq_false_iff_ne.2 (by omega)
    have e11 : (x0 == 11) = false := beq_eq_false_iff_ne.2 (by omega)
    have e12 : (x0 == 12) = false := beq_eq_false_iff_ne.2 (by omega)
    clear h k5 k7 k2
    go_enter Tryd.func108, Tryd.ntmps108
    go_wp2
    go_ret
    exact ⟨rfl, HB0.out⟩
end cls
end Go.Proofs.YtagkhoeidjlahaaDoor.G
namespace Go.Proofs.YtagkhoeidjlahaaDoor.G
open Go.RowKit Go.Proofs.YtagkhoeidjlahaaDoorW.PrintWords Go.Proofs.YtagkhoeidjlahaaDoorW.PrintLast Go.Proofs.YtagkhoeidjlahaaDoorW.PrintMore
attribute [local go_sem] max2_int min2_int max_two min_two max_three min_three max_four min_four
set_option linter.unusedVariables false
set_option linter.unusedSimpArgs false
def atom_Class.f (k : Nat) (l0 : List (S68)) (a1_0 : Int) (a1_1 : ByteArray) (a1_2 : Int) (l1_3 : List (S36)) : Option Int := cls l0 k ⟨a1_0, a1_1, a1_2, l1_3⟩
set_option maxHeartbeats 2000000 in
set_option maxRecDepth 100000 in

theorem atom_Class.calls (k : Nat) (A0 : Option Addr) (c0 : Nat) (l0 : List (S68)) (a1_0 : Int) (a1_1 : ByteArray) (a1_2 : Int) (A1_3 : Option Addr) (c1_3 : Nat) (l1_3 : List (S36)) (r : Int) (w : World) (hr0 : Kd.C k68 w A0 l0.length l0) (hc0 : l0.length ≤ c0) (hr1_3 : Kd.C k36 w A1_3 l1_3.length l1_3) (hc1_3 : l1_3.length ≤ c1_3) (h : atom_Class.f k l0 a1_0 a1_1 a1_2 l1_3 = some r) :
    Calls Tryd.prog 89 #[.slice A0 l0.length c0, .agg #[.int .i64 a1_0, .string a1_1, .int .i64 a1_2, .slice A1_3 l1_3.length c1_3]] w fun e w' => e = .returned (.int .i64 r) ∧ Below w.heap.size w w' := by
  have hu36 := Tryd.underlying36
  have X1 := blk_alloc (blk_alloc (blk_new w (.cells #[.slice A0 l0.length c0] 22)) (.cells #[.int .i64 a1_0, .string a1_1, .int .i64 a1_2, .slice A1_3 l1_3.length c1_3] 36)) (.cells #[.func (.func 108) #[] #[.pointer (some ⟨w.heap.size, 0, none⟩), .pointer (some ⟨w.heap.size + 2, 0, none⟩)]] 51)
  have X2 := blk_new ((w.alloc (.cells #[.slice A0 l0.length c0] 22)).alloc (.cells #[.int .i64 a1_0, .string a1_1, .int .i64 a1_2, .slice A1_3 l1_3.length c1_3] 36)) (.cells #[.func (.func 108) #[] #[.pointer (some ⟨w.heap.size, 0, none⟩), .pointer (some ⟨w.heap.size + 2, 0, none⟩)]] 51)
  rw [World.size_alloc, World.size_alloc] at X2
  have HB := Aside0.mk (below_alloc (below_alloc (below_alloc (Below.refl w.heap.size w) (.cells #[.slice A0 l0.length c0] 22)) (.cells #[.int .i64 a1_0, .string a1_1, .int .i64 a1_2, .slice A1_3 l1_3.length c1_3] 36)) (.cells #[.func (.func 108) #[] #[.pointer (some ⟨w.heap.size, 0, none⟩), .pointer (some ⟨w.heap.size + 2, 0, none⟩)]] 51))
  have H := Aside0.mk (cls_calls l0 A0 c0 w.heap.size (w.heap.size + 2) k ⟨a1_0, a1_1, a1_2, l1_3⟩ A1_3 c1_3 r _ X1 X2 (Kd.C_below hr0 HB.out) hc0 (Kd.C_below hr1_3 HB.out) hc1_3 h)
  clear X1 X2 hr0 hc0 hr1_3 hc1_3 h
  go_enter Tryd.func89, Tryd.ntmps89
  go_wp2_with fail
  refine H.out.mono ?_
  rintro e w2 ⟨rfl, hb⟩
  have HB2 := Aside0.mk (below_step HB.out hb)
  clear hb
  go_wp2
  go_ret
  exact ⟨rfl, HB2.out⟩
end Go.Proofs.YtagkhoeidjlahaaDoor.G
namespace Go.Proofs.YtagkhoeidjlahaaDoor.G
open Go.RowKit Go.Proofs.YtagkhoeidjlahaaDoorW.PrintWords Go.Proofs.YtagkhoeidjlahaaDoorW.PrintLast Go.Proofs.YtagkhoeidjlahaaDoorW.PrintMore
attribute [local go_sem] max2_int min2_int max_two min_two max_three min_three max_four min_four
set_option linter.unusedVariables false
set_option linter.unusedSimpArgs false
def atom_in.l0 : Nat → Int → List Int → Int → Int → Option (Bool)
  | 0, _, _, _, _ => none
  | k + 1, x0, x7, x8, x9 => if x9 < x8 then (if 0 ≤ x9 then (if x9 < (x7.length : Int) then (if (rd x7 x9) = x0 then (some true) else (atom_in.l0 k x0 x7 x8 (wrap64 (x9 + 1)))) else (none)) else (none)) else (some false)
def atom_in.f (k : Nat) (a0 : Int) (l1 : List Int) : Option (Bool) := atom_in.l0 k a0 l1 (l1.length : Int) 0
set_option maxHeartbeats 8000000 in
set_option maxRecDepth 100000 in
theorem atom_in.calls (k : Nat) (a0 : Int) (A1 : Option Addr) (c1 : Nat) (l1 : List Int) (r : Bool) (w : World) (hr1 : Kd.C (Kd.int .i64) w A1 l1.length l1) (hc1 : l1.length ≤ c1) (h : atom_in.f k a0 l1 = some r) :
    Calls Tryd.prog 90 #[.int .i64 a0, .slice A1 l1.length c1] w fun e w' => e = .returned (.bool r) ∧ Drawn0 w w' := by
  have HR1 := Aside0.mk hr1
  have HC1 := Aside0.mk hc1
  clear hr1 hc1
  have H : (atom_in.l0 k a0 l1 (l1.length : Int) 0) = some r := h
  clear h
  have H' := Aside0.mk H
  clear H
  go_enter Tryd.func90, Tryd.ntmps90
  go_wp2
  go_loopg [9] k (fun kq v9 w' => ∃ (x9_1 : Int), v9 = .int .i64 x9_1 ∧ Aside0 (atom_in.l0 kq a0 l1 (l1.length : Int) x9_1 = some r) ∧ Aside0 (kq ≤ k) ∧ Drawn0 w w')
  case atStart => exact ⟨(0), (by first | rfl | (simp; done) | (simp [*]; done)), H', ⟨Nat.le_refl _⟩, by repeat (first | exact Drawn0.refl _ | apply Drawn0.step)⟩
  case round =>
    clear H'
    try clear c1
    try clear p2
    obtain ⟨x9_1, rfl, HA, HK1, ⟨m1, rfl⟩⟩ := hrel
    cases gk with
    | zero => exact absurd HA.out (by simp [atom_in.l0])
    | succ k1 =>
      have H := HA.out
      clear HA
      simp only [atom_in.l0] at H
      by_cases c3 : x9_1 < (l1.length : Int)
      · rw [if_pos c3] at H
        have c3b0 : decide (x9_1 < (l1.length : Int)) = true := decide_eq_true c3
        clear c3
        by_cases c4 : 0 ≤ x9_1
        · rw [if_pos c4] at H
          have c4b0 : decide (0 ≤ x9_1) = true := decide_eq_true c4
          clear c4
          by_cases c5 : x9_1 < (l1.length : Int)
          · rw [if_pos c5] at H
            have c5b0 : decide (x9_1 < (l1.length : Int)) = true := decide_eq_true c5
            clear c5
            by_cases c6 : (rd l1 x9_1) = a0
            · rw [if_pos c6] at H
              have c6b0 : ((rd l1 x9_1) == a0) = true := beq_iff_eq.mpr c6
              have c6b1 : ((rd l1 x9_1) != a0) = false := bne_eq_false_iff_eq.mpr c6
              clear c6
              obtain rfl := Option.some.inj H
              have p133 : 0 ≤ (x9_1 : Int) := of_decide_eq_true (by first | (with_reducible assumption) | assumption)
              have q133 : x9_1 < (l1.length : Int) := of_decide_eq_true (by first | (with_reducible assumption) | assumption)
              obtain ⟨ad133, e133, hx133_0⟩ := Kd.at_int HR1.out x9_1 p133 q133
              cases e133
              replace p133 := eq_true p133
              replace q133 := eq_true q133
              go_wp2
              go_ret
              exact ⟨by first | rfl | (simp; done) | (simp [*]; done), by repeat (first | exact Drawn0.refl _ | apply Drawn0.step)⟩
            · rw [if_neg c6] at H
              have c6b0 : ((rd l1 x9_1) == a0) = false := beq_eq_false_iff_ne.mpr c6
              have c6b1 : ((rd l1 x9_1) != a0) = true := bne_iff_ne.mpr c6
              have H' := Aside0.mk H
              clear H
              have p133 : 0 ≤ (x9_1 : Int) := of_decide_eq_true (by first | (with_reducible assumption) | assumption)
              have q133 : x9_1 < (l1.length : Int) := of_decide_eq_true (by first | (with_reducible assumption) | assumption)
              obtain ⟨ad133, e133, hx133_0⟩ := Kd.at_int HR1.out x9_1 p133 q133
              cases e133
              replace p133 := eq_true p133
              replace q133 := eq_true q133
              go_wp2
              go_roundg k1
              case measure => have := HK1.out; omega
              case rel => exact ⟨(wrap64 (x9_1 + 1)), (by first | rfl | (simp; done) | (simp [*]; done)), H', ⟨by have := HK1.out; omega⟩, by repeat (first | exact Drawn0.refl _ | apply Drawn0.step)⟩
          · rw [if_neg c5] at H
            exact absurd H (by simp)
        · rw [if_neg c4] at H
          exact absurd H (by simp)
      · rw [if_neg c3] at H
        have c3b0 : decide (x9_1 < (l1.length : Int)) = false := decide_eq_false c3
        clear c3
        obtain rfl := Option.some.inj H
        go_wp2
        go_ret
        exact ⟨by first | rfl | (simp; done) | (simp [*]; done), by repeat (first | exact Drawn0.refl _ | apply Drawn0.step)⟩
end Go.Proofs.YtagkhoeidjlahaaDoor.G
