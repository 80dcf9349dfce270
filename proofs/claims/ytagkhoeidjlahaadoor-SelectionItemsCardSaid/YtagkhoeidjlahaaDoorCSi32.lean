-- Written by pack2.py, a program of this session: this session's texts and those that the kit's printer wrote for this claim, pruned to what the claims use.
import Derived.Test.YtagkhoeidjlahaaDoorCSi2
import Derived.Test.YtagkhoeidjlahaaDoorCSi30
import Derived.Test.YtagkhoeidjlahaaDoorCSi31
import Derived.Test.YtagkhoeidjlahaaDoorCSi9
namespace Go.Proofs.YtagkhoeidjlahaaDoor.G
open Go.RowKit Go.Proofs.YtagkhoeidjlahaaDoorW.PrintWords Go.Proofs.YtagkhoeidjlahaaDoorW.PrintLast Go.Proofs.YtagkhoeidjlahaaDoorW.PrintMore
attribute [local go_sem] max2_int min2_int max_two min_two max_three min_three max_four min_four
set_option linter.unusedVariables false
set_option linter.unusedSimpArgs false
def node_Row.f (k : Nat) (a0_0 : Int) (a0_1 : ByteArray) (a0_2 : Int) (l0_3 : List (S36)) (l1 : List Int) : Option (Int × ByteArray × Int × (List (S36)) × Int) := (node_Valid.f k a0_0 a0_1 a0_2 l0_3).bind fun t => (if t = true then ((node_row.f k a0_0 a0_1 a0_2 l0_3 l1).bind fun b => (if b.2.2.2.2 = true then ((node_clone.f k b.1 b.2.1 b.2.2.1 b.2.2.2.1).bind fun c => (some (c.1, c.2.1, c.2.2.1, c.2.2.2, 0))) else (some (0, (⟨#[]⟩ : ByteArray), 0, ([] : List (S36)), 8)))) else (some (0, (⟨#[]⟩ : ByteArray), 0, ([] : List (S36)), 1)))
set_option maxHeartbeats 4000000 in

theorem node_Row.calls (k : Nat) (a0_0 : Int) (a0_1 : ByteArray) (a0_2 : Int) (A0_3 : Option Addr) (c0_3 : Nat) (l0_3 : List (S36)) (A1 : Option Addr) (c1 : Nat) (l1 : List Int) (r1 : Int) (r2 : ByteArray) (r3 : Int) (r4 : List (S36)) (r5 : Int) (w : World) (hr0_3 : Kd.C k36 w A0_3 l0_3.length l0_3) (hc0_3 : l0_3.length ≤ c0_3) (hr1 : Kd.C (Kd.int .i64) w A1 l1.length l1) (hc1 : l1.length ≤ c1) (h : node_Row.f k a0_0 a0_1 a0_2 l0_3 l1 = some (r1, r2, r3, r4, r5)) :
  Calls Tryd.prog 83 #[.agg #[.int .i64 a0_0, .string a0_1, .int .i64 a0_2, .slice A0_3 l0_3.length c0_3], .slice A1 l1.length c1] w fun e w' => ∃ v3_ : Value, e = .returned (.tuple #[.agg #[.int .i64 r1, .string r2, .int .i64 r3, v3_], .int .i64 r5]) ∧ Kd.V k36 36 w' w.heap.size (fun k_ => (w.heap.size ≤ k_)) v3_ r4 ∧ Below w.heap.size w w' := by
 have hu36 := Tryd.underlying36
 obtain ⟨t, hV, e1⟩ := Option.bind_eq_some_iff.mp h
 have HR0 := Aside0.mk hr0_3
 have HC0 := Aside0.mk hc0_3
 have HR1 := Aside0.mk hr1
 have HC1 := Aside0.mk hc1
 have HV := Aside0.mk hV
 have H := Aside0.mk e1
 clear h hr0_3 hc0_3 hr1 hc1 hV e1
 have HX0 := Aside0.mk (blk_alloc (blk_new w (.cells #[.int .i64 a0_0, .string a0_1, .int .i64 a0_2, .slice A0_3 l0_3.length c0_3] 36)) (.cells #[.int .i64 0, .string ⟨#[]⟩, .int .i64 0, .slice none 0 0] 36))
 have Y0 := blk_new (w.alloc (.cells #[.int .i64 a0_0, .string a0_1, .int .i64 a0_2, .slice A0_3 l0_3.length c0_3] 36)) (.cells #[.int .i64 0, .string ⟨#[]⟩, .int .i64 0, .slice none 0 0] 36)
 rw [World.size_alloc] at Y0
 have HY0 := Aside0.mk Y0
 have HB0 := Aside0.mk (below_alloc (below_alloc (Below.refl w.heap.size w) (.cells #[.int .i64 a0_0, .string a0_1, .int .i64 a0_2, .slice A0_3 l0_3.length c0_3] 36)) (.cells #[.int .i64 0, .string ⟨#[]⟩, .int .i64 0, .slice none 0 0] 36))
 clear Y0
 go_enter Tryd.func83, Tryd.ntmps83
 go_wp2_with fail
 refine (node_Valid.calls k a0_0 a0_1 a0_2 A0_3 c0_3 l0_3 t _ (Kd.C_below HR0.out HB0.out) HC0.out HV.out).mono ?_
 rintro e w2 ⟨rfl, hb⟩
 have HX2 := Aside0.mk (blk_below HX0.out hb)
 have HY2 := Aside0.mk (blk_below HY0.out hb)
 have HB2 := Aside0.mk (below_step HB0.out hb)
 clear hb HX0 HY0 HB0 HV
 cases t with
 | false =>
  have e2 := H.out
  simp only [Bool.false_eq_true, if_false, Option.some.injEq, Prod.mk.injEq] at e2
  obtain ⟨rfl, rfl, rfl, rfl, rfl⟩ := e2
  clear H
  have y0_ := (blk_cell HY2.out 0).trans rfl
  have y1_ := (blk_cell HY2.out 1).trans rfl
  have y2_ := (blk_cell HY2.out 2).trans rfl
  have y3_ := (blk_cell HY2.out 3).trans rfl
  have z0_ := blk_frozen HY2.out 0
  have z1_ := blk_frozen HY2.out 1
  have z2_ := blk_frozen HY2.out 2
  have z3_ := blk_frozen HY2.out 3
  go_wp2
  refine bodyPost_ret (results_ct rfl _ _ (w.heap.size + 1) 36 #[.int .i64 0, .string ⟨#[]⟩, .int .i64 0, .slice none 0 0] (0, 0) _ rfl (by refine blk_put (cs := #[.int .i64 0, .string ⟨#[]⟩, .int .i64 0, .slice none 0 0]) ?_ 3 _ rfl; refine blk_put (cs := #[.int .i64 0, .string ⟨#[]⟩, .int .i64 0, .slice none 0 0]) ?_ 2 _ rfl; refine blk_put (cs := #[.int .i64 0, .string ⟨#[]⟩, .int .i64 0, .slice none 0 0]) ?_ 1 _ rfl; refine blk_put (cs := #[.int .i64 0, .string ⟨#[]⟩, .int .i64 0, .slice none 0 0]) ?_ 0 _ rfl; exact HY2.out) Tryd.underlying36 rfl (by kernel_rfl)) rfl ?_
  exact ⟨_, rfl, Kd.V_nil _ _ _ _ _, below_set (below_set (below_set (below_set HB2.out (by omega)) (by omega)) (by omega)) (by omega)⟩
 | true =>
  have e2 := H.out
  rw [if_pos rfl] at e2
  obtain ⟨⟨b1, b2, b3, b4, b5⟩, hW, e3⟩ := Option.bind_eq_some_iff.mp e2
  clear e2 H
  simp only at e3
  have HW := Aside0.mk hW
  have H3 := Aside0.mk e3
  clear hW e3
  have q0 := (blk_cell HX2.out 0).trans rfl
  have q1 := (blk_cell HX2.out 1).trans rfl
  have q2 := (blk_cell HX2.out 2).trans rfl
  have q3 := (blk_cell HX2.out 3).trans rfl
  go_wp2_with fail
  refine (node_row.calls k a0_0 a0_1 a0_2 (fun k => k < w.heap.size) A0_3 c0_3 l0_3 (fun k => k < w.heap.size) A1 c1 l1 b1 b2 b3 b4 b5 _ (Kd.V_mk HC0.out (Kd.F_below (Kd.C_F k36_heap HR0.out) HB2.out)) (Kd.V_mk HC1.out (Kd.F_below (Kd.C_F (Kd.heap_int .i64) HR1.out) HB2.out)) HW.out).mono ?_
  rintro e w3 ⟨v3, rfl, hN, hb⟩
  obtain ⟨A3, c3, rfl⟩ := Kd.V_slice hN
  have C3 := Aside0.mk (Kd.C_alloc (Kd.F_now (Kd.V_F hN)) (.cells #[.int .i64 b1, .string b2, .int .i64 b3, .slice A3 b4.length c3] 36))
  have L3 := Aside0.mk (Kd.V_reads' hN).2.1
  have hsz : w.heap.size + 2 ≤ w3.heap.size := by have := blk_lt HY2.out; have := hb.size; omega
  have HY3 := Aside0.mk (blk_alloc (blk_below HY2.out hb) (.cells #[.int .i64 b1, .string b2, .int .i64 b3, .slice A3 b4.length c3] 36))
  have HZ3 := Aside0.mk (blk_new w3 (.cells #[.int .i64 b1, .string b2, .int .i64 b3, .slice A3 b4.length c3] 36))
  have HB3 := Aside0.mk (below_alloc (below_step HB2.out hb) (.cells #[.int .i64 b1, .string b2, .int .i64 b3, .slice A3 b4.length c3] 36))
  clear hN hb HX2 HY2 HB2 q0 q1 q2 q3 HW
  have q0 := (blk_cell HZ3.out 0).trans rfl
  have q1 := (blk_cell HZ3.out 1).trans rfl
  have q2 := (blk_cell HZ3.out 2).trans rfl
  have q3 := (blk_cell HZ3.out 3).trans rfl
  cases b5 with
  | false =>
   have e4 := H3.out
   simp only [Bool.false_eq_true, if_false, Option.some.injEq, Prod.mk.injEq] at e4
   obtain ⟨rfl, rfl, rfl, rfl, rfl⟩ := e4
   clear H3
   have y0_ := (blk_cell HY3.out 0).trans rfl
   have y1_ := (blk_cell HY3.out 1).trans rfl
   have y2_ := (blk_cell HY3.out 2).trans rfl
   have y3_ := (blk_cell HY3.out 3).trans rfl
   have z0_ := blk_frozen HY3.out 0
   have z1_ := blk_frozen HY3.out 1
   have z2_ := blk_frozen HY3.out 2
   have z3_ := blk_frozen HY3.out 3
   go_wp2
   refine bodyPost_ret (results_ct rfl _ _ (w.heap.size + 1) 36 #[.int .i64 0, .string ⟨#[]⟩, .int .i64 0, .slice none 0 0] (0, 0) _ rfl (by refine blk_put (cs := #[.int .i64 0, .string ⟨#[]⟩, .int .i64 0, .slice none 0 0]) ?_ 3 _ rfl; refine blk_put (cs := #[.int .i64 0, .string ⟨#[]⟩, .int .i64 0, .slice none 0 0]) ?_ 2 _ rfl; refine blk_put (cs := #[.int .i64 0, .string ⟨#[]⟩, .int .i64 0, .slice none 0 0]) ?_ 1 _ rfl; refine blk_put (cs := #[.int .i64 0, .string ⟨#[]⟩, .int .i64 0, .slice none 0 0]) ?_ 0 _ rfl; exact HY3.out) Tryd.underlying36 rfl (by kernel_rfl)) rfl ?_
   exact ⟨_, rfl, Kd.V_nil _ _ _ _ _, below_set (below_set (below_set (below_set HB3.out (by omega)) (by omega)) (by omega)) (by omega)⟩
  | true =>
   have e4 := H3.out
   rw [if_pos rfl] at e4
   obtain ⟨⟨d1, d2, d3, d4⟩, hD, e5⟩ := Option.bind_eq_some_iff.mp e4
   clear e4 H3
   simp only [Option.some.injEq, Prod.mk.injEq] at e5
   obtain ⟨rfl, rfl, rfl, rfl, rfl⟩ := e5
   have HD := Aside0.mk hD
   clear hD
   go_wp2_with fail
   refine (node_clone.calls k b1 b2 b3 A3 c3 b4 d1 d2 d3 d4 _ C3.out L3.out HD.out).mono ?_
   rintro e w4 ⟨v4, rfl, hN, hb⟩
   obtain ⟨A4, c4, rfl⟩ := Kd.V_slice hN
   rw [World.size_alloc] at hN
   have HN4 := Aside0.mk hN
   have HY4 := Aside0.mk (blk_below HY3.out hb)
   have HB4 := Aside0.mk (below_step HB3.out hb)
   clear hN hb HY3 HZ3 HB3 q0 q1 q2 q3 HD C3
   have y0_ := (blk_cell HY4.out 0).trans rfl
   have y1_ := (blk_cell HY4.out 1).trans rfl
   have y2_ := (blk_cell HY4.out 2).trans rfl
   have y3_ := (blk_cell HY4.out 3).trans rfl
   have z0_ := blk_frozen HY4.out 0
   have z1_ := blk_frozen HY4.out 1
   have z2_ := blk_frozen HY4.out 2
   have z3_ := blk_frozen HY4.out 3
   go_wp2
   refine bodyPost_ret (results_ct rfl _ _ (w.heap.size + 1) 36 #[.int .i64 d1, .string d2, .int .i64 d3, .slice A4 d4.length c4] (0, 0) _ rfl (by refine blk_put (cs := #[.int .i64 d1, .string d2, .int .i64 d3, .slice none 0 0]) ?_ 3 _ rfl; refine blk_put (cs := #[.int .i64 d1, .string d2, .int .i64 0, .slice none 0 0]) ?_ 2 _ rfl; refine blk_put (cs := #[.int .i64 d1, .string ⟨#[]⟩, .int .i64 0, .slice none 0 0]) ?_ 1 _ rfl; refine blk_put (cs := #[.int .i64 0, .string ⟨#[]⟩, .int .i64 0, .slice none 0 0]) ?_ 0 _ rfl; exact HY4.out) Tryd.underlying36 rfl (by kernel_rfl)) rfl ?_
   exact ⟨_, rfl, Kd.V_mk (Kd.V_reads' HN4.out).2.1 (Kd.F_mono (Kd.F_far (p := ⟨w.heap.size + 1, 3, none⟩) (Kd.F_far (p := ⟨w.heap.size + 1, 2, none⟩) (Kd.F_far (p := ⟨w.heap.size + 1, 1, none⟩) (Kd.F_far (p := ⟨w.heap.size + 1, 0, none⟩) (Kd.V_F HN4.out) (fun k hk => by simp only; omega) _) (fun k hk => by simp only; omega) _) (fun k hk => by simp only; omega) _) (fun k hk => by simp only; omega) _) (fun k hk => by omega)), below_set (below_set (below_set (below_set HB4.out (by omega)) (by omega)) (by omega)) (by omega)⟩
end Go.Proofs.YtagkhoeidjlahaaDoor.G
