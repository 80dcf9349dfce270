-- Written by pack2.py: this session's texts and the printer's, pruned.
import Derived.Test.YtagkhoeidjlahaaDoorCSe2
import Derived.Test.YtagkhoeidjlahaaDoorCSe34
import Derived.Test.YtagkhoeidjlahaaDoorCSe9
import Derived.Test.YtagkhoeidjlahaaDoorCSe35
import Derived.Test.YtagkhoeidjlahaaDoorCSe17
import Derived.Test.YtagkhoeidjlahaaDoorCSe32
import Derived.Test.YtagkhoeidjlahaaDoorCSe33
namespace Go.Proofs.YtagkhoeidjlahaaDoor.G
open Go.RowKit Go.Proofs.YtagkhoeidjlahaaDoorW.PrintWords Go.Proofs.YtagkhoeidjlahaaDoorW.PrintLast Go.Proofs.YtagkhoeidjlahaaDoorW.PrintMore
attribute [local go_sem] max2_int min2_int max_two min_two max_three min_three max_four min_four
set_option linter.unusedVariables false
set_option linter.unusedSimpArgs false
def node_Row.f (k : Nat) (a0_0 : Int) (a0_1 : ByteArray) (a0_2 : Int) (l0_3 : List (S36)) (l1 : List Int) : Option (Int × ByteArray × Int × (List (S36)) × Int) := (node_Valid.f k a0_0 a0_1 a0_2 l0_3).bind fun t => (if t = true then ((fnd k l1 ⟨a0_0, a0_1, a0_2, l0_3⟩).bind fun b => (if b.2 = true then ((node_clone.f k b.1.f0 b.1.f1 b.1.f2 b.1.f3).bind fun c => (some (c.1, c.2.1, c.2.2.1, c.2.2.2, 0))) else (some (0, (⟨#[]⟩ : ByteArray), 0, ([] : List (S36)), 8)))) else (some (0, (⟨#[]⟩ : ByteArray), 0, ([] : List (S36)), 1)))
set_option maxHeartbeats 4000000 in

theorem node_Row.calls (k : Nat) (a0_0 : Int) (a0_1 : ByteArray) (a0_2 : Int) (A0_3 : Option Addr) (c0_3 : Nat) (l0_3 : List (S36)) (A1 : Option Addr) (c1 : Nat) (l1 : List Int) (r1 : Int) (r2 : ByteArray) (r3 : Int) (r4 : List (S36)) (r5 : Int) (w : World) (hr0_3 : Kd.C k36 w A0_3 l0_3.length l0_3) (hc0_3 : l0_3.length ≤ c0_3) (hr1 : Kd.C (Kd.int .i64) w A1 l1.length l1) (hc1 : l1.length ≤ c1) (h : node_Row.f k a0_0 a0_1 a0_2 l0_3 l1 = some (r1, r2, r3, r4, r5)) :
  Calls Tryd.prog 83 #[.agg #[.int .i64 a0_0, .string a0_1, .int .i64 a0_2, .slice A0_3 l0_3.length c0_3], .slice A1 l1.length c1] w fun e w' => ∃ v3_ : Value, e = .returned (.tuple #[.agg #[.int .i64 r1, .string r2, .int .i64 r3, v3_], .int .i64 r5]) ∧ Kd.V k36 36 w' w.heap.size (fun k_ => (w.heap.size ≤ k_)) v3_ r4 ∧ Below w.heap.size w w' := by
 have hu36 := Tryd.underlying36
 obtain ⟨t, hV, e1⟩ := Option.bind_eq_some_iff.mp h
 have HR0 := Aside0.mk hr0_3
 have HC0 := Aside0.mk hc0_3
 have HR1 := Aside0.mk hr1
 have HC1 := Aside0.mk hc1
 have HV := Aside0.mk hV
 have H := Aside0.mk e1
 clear h hr0_3 hc0_3 hr1 hc1 hV e1
 have HX0 := Aside0.mk (blk_alloc (blk_new w (.cells #[.int .i64 a0_0, .string a0_1, .int .i64 a0_2, .slice A0_3 l0_3.length c0_3] 36)) (.cells #[.int .i64 0, .string ⟨#[]⟩, .int .i64 0, .slice none 0 0] 36))
 have Y0 := blk_new (w.alloc (.cells #[.int .i64 a0_0, .string a0_1, .int .i64 a0_2, .slice A0_3 l0_3.length c0_3] 36)) (.cells #[.int .i64 0, .string ⟨#[]⟩, .int .i64 0, .slice none 0 0] 36)
 rw [World.size_alloc] at Y0
 have HY0 := Aside0.mk Y0
 have HB0 := Aside0.mk (below_alloc (below_alloc (Below.refl w.heap.size w) (.cells #[.int .i64 a0_0, .string a0_1, .int .i64 a0_2, .slice A0_3 l0_3.length c0_3] 36)) (.cells #[.int .i64 0, .string ⟨#[]⟩, .int .i64 0, .slice none 0 0] 36))
 clear Y0
 go_enter Tryd.func83, Tryd.ntmps83
 go_wp2_with fail
 refine (node_Valid.calls k a0_0 a0_1 a0_2 A0_3 c0_3 l0_3 t _ (Kd.C_below HR0.out HB0.out) HC0.out HV.out).mono ?_
 rintro e w2 ⟨rfl, hb⟩
 have HX2 := Aside0.mk (blk_below HX0.out hb)
 have HY2 := Aside0.mk (blk_below HY0.out hb)
 have HB2 := Aside0.mk (below_step HB0.out hb)
 clear hb HX0 HY0 HB0 HV
 cases t with
 | false =>
  have e2 := H.out
  simp only [Bool.false_eq_true, if_false, Option.some.injEq, Prod.mk.injEq] at e2
  obtain ⟨rfl, rfl, rfl, rfl, rfl⟩ := e2
  clear H
  have y0_ := (blk_cell HY2.out 0).trans rfl
  have y1_ := (blk_cell HY2.out 1).trans rfl
  have y2_ := (blk_cell HY2.out 2).trans rfl
  have y3_ := (blk_cell HY2.out 3).trans rfl
  have z0_ := blk_frozen HY2.out 0
  have z1_ := blk_frozen HY2.out 1
  have z2_ := blk_frozen HY2.out 2
  have z3_ := blk_frozen HY2.out 3
  go_wp2
  refine bodyPost_ret (results_ct rfl _ _ (w.heap.size + 1) 36 #[.int .i64 0, .string ⟨#[]⟩, .int .i64 0, .slice none 0 0] (0, 0) _ rfl (by refine blk_put (cs := #[.int .i64 0, .string ⟨#[]⟩, .int .i64 0, .slice none 0 0]) ?_ 3 _ rfl; refine blk_put (cs := #[.int .i64 0, .string ⟨#[]⟩, .int .i64 0, .slice none 0 0]) ?_ 2 _ rfl; refine blk_put (cs := #[.int .i64 0, .string ⟨#[]⟩, .int .i64 0, .slice none 0 0]) ?_ 1 _ rfl; refine blk_put (cs := #[.int .i64 0, .string ⟨#[]⟩, .int .i64 0, .slice none 0 0]) ?_ 0 _ rfl; exact HY2.out) Tryd.underlying36 rfl (by kernel_rfl)) rfl ?_
  exact ⟨_, rfl, Kd.V_nil _ _ _ _ _, below_set (below_set (below_set (below_set HB2.out (by omega)) (by omega)) (by omega)) (by omega)⟩
 | true =>
  have e2 := H.out
  rw [if_pos rfl] at e2
  obtain ⟨⟨⟨b1, b2, b3, b4⟩, b5⟩, hW, e3⟩ := Option.bind_eq_some_iff.mp e2
  clear e2 H
  simp only at e3
  have HW := Aside0.mk hW
  have H3 := Aside0.mk e3
  clear hW e3
  have q0 := (blk_cell HX2.out 0).trans rfl
  have q1 := (blk_cell HX2.out 1).trans rfl
  have q2 := (blk_cell HX2.out 2).trans rfl
  have q3 := (blk_cell HX2.out 3).trans rfl
  go_wp2_with fail
  refine (nrow_calls k ⟨a0_0, a0_1, a0_2, l0_3⟩ A0_3 c0_3 A1 c1 l1 ⟨b1, b2, b3, b4⟩ b5 _ (fun k => k < w.heap.size) (Kd.F_below (Kd.C_F k36_heap HR0.out) HB2.out) HC0.out (Kd.C_below HR1.out HB2.out) HC1.out HW.out).mono ?_
  rintro e w3 ⟨v3, rfl, hN, hb⟩
  obtain ⟨A3, c3, rfl⟩ := Kd.V_slice hN
  have C3 := Aside0.mk (Kd.C_alloc (Kd.F_now (Kd.V_F hN)) (.cells #[.int .i64 b1, .string b2, .int .i64 b3, .slice A3 b4.length c3] 36))
  have L3 := Aside0.mk (Kd.V_reads' hN).2.1
  have hsz : w.heap.size + 2 ≤ w3.heap.size := by have := blk_lt HY2.out; have := hb.size; omega
  have HY3 := Aside0.mk (blk_alloc (blk_below HY2.out hb) (.cells #[.int .i64 b1, .string b2, .int .i64 b3, .slice A3 b4.length c3] 36))
  have HZ3 := Aside0.mk (blk_new w3 (.cells #[.int .i64 b1, .string b2, .int .i64 b3, .slice A3 b4.length c3] 36))
  have HB3 := Aside0.mk (below_alloc (below_step HB2.out hb) (.cells #[.int .i64 b1, .string b2, .int .i64 b3, .slice A3 b4.length c3] 36))
  clear hN hb HX2 HY2 HB2 q0 q1 q2 q3 HW
  have q0 := (blk_cell HZ3.out 0).trans rfl
  have q1 := (blk_cell HZ3.out 1).trans rfl
  have q2 := (blk_cell HZ3.out 2).trans rfl
  have q3 := (blk_cell HZ3.out 3).trans rfl
  cases b5 with
  | false =>
   have e4 := H3.out
   simp only [Bool.false_eq_true, if_false, Option.some.injEq, Prod.mk.injEq] at e4
   obtain ⟨rfl, rfl, rfl, rfl, rfl⟩ := e4
   clear H3
   have y0_ := (blk_cell HY3.out 0).trans rfl
   have y1_ := (blk_cell HY3.out 1).trans rfl
   have y2_ := (blk_cell HY3.out 2).trans rfl
   have y3_ := (blk_cell HY3.out 3).trans rfl
   have z0_ := blk_frozen HY3.out 0
   have z1_ := blk_frozen HY3.out 1
   have z2_ := blk_frozen HY3.out 2
   have z3_ := blk_frozen HY3.out 3
   go_wp2
   refine bodyPost_ret (results_ct rfl _ _ (w.heap.size + 1) 36 #[.int .i64 0, .string ⟨#[]⟩, .int .i64 0, .slice none 0 0] (0, 0) _ rfl (by refine blk_put (cs := #[.int .i64 0, .string ⟨#[]⟩, .int .i64 0, .slice none 0 0]) ?_ 3 _ rfl; refine blk_put (cs := #[.int .i64 0, .string ⟨#[]⟩, .int .i64 0, .slice none 0 0]) ?_ 2 _ rfl; refine blk_put (cs := #[.int .i64 0, .string ⟨#[]⟩, .int .i64 0, .slice none 0 0]) ?_ 1 _ rfl; refine blk_put (cs := #[.int .i64 0, .string ⟨#[]⟩, .int .i64 0, .slice none 0 0]) ?_ 0 _ rfl; exact HY3.out) Tryd.underlying36 rfl (by kernel_rfl)) rfl ?_
   exact ⟨_, rfl, Kd.V_nil _ _ _ _ _, below_set (below_set (below_set (below_set HB3.out (by omega)) (by omega)) (by omega)) (by omega)⟩
  | true =>
   have e4 := H3.out
   rw [if_pos rfl] at e4
   obtain ⟨⟨d1, d2, d3, d4⟩, hD, e5⟩ := Option.bind_eq_some_iff.mp e4
   clear e4 H3
   simp only [Option.some.injEq, Prod.mk.injEq] at e5
   obtain ⟨rfl, rfl, rfl, rfl, rfl⟩ := e5
   have HD := Aside0.mk hD
   clear hD
   go_wp2_with fail
   refine (node_clone.calls k b1 b2 b3 A3 c3 b4 d1 d2 d3 d4 _ C3.out L3.out HD.out).mono ?_
   rintro e w4 ⟨v4, rfl, hN, hb⟩
   obtain ⟨A4, c4, rfl⟩ := Kd.V_slice hN
   rw [World.size_alloc] at hN
   have HN4 := Aside0.mk hN
   have HY4 := Aside0.mk (blk_below HY3.out hb)
   have HB4 := Aside0.mk (below_step HB3.out hb)
   clear hN hb HY3 HZ3 HB3 q0 q1 q2 q3 HD C3
   have y0_ := (blk_cell HY4.out 0).trans rfl
   have y1_ := (blk_cell HY4.out 1).trans rfl
   have y2_ := (blk_cell HY4.out 2).trans rfl
   have y3_ := (blk_cell HY4.out 3).trans rfl
   have z0_ := blk_frozen HY4.out 0
   have z1_ := blk_frozen HY4.out 1
   have z2_ := blk_frozen HY4.out 2
   have z3_ := blk_frozen HY4.out 3
   go_wp2
   refine bodyPost_ret (results_ct rfl _ _ (w.heap.size + 1) 36 #[.int .i64 d1, .string d2, .int .i64 d3, .slice A4 d4.length c4] (0, 0) _ rfl (by refine blk_put (cs := #[.int .i64 d1, .string d2, .int .i64 d3, .slice none 0 0]) ?_ 3 _ rfl; refine blk_put (cs := #[.int .i64 d1, .string d2, .int .i64 0, .slice none 0 0]) ?_ 2 _ rfl; refine blk_put (cs := #[.int .i64 d1, .string ⟨#[]⟩, .int .i64 0, .slice none 0 0]) ?_ 1 _ rfl; refine blk_put (cs := #[.int .i64 0, .string ⟨#[]⟩, .int .i64 0, .slice none 0 0]) ?_ 0 _ rfl; exact HY4.out) Tryd.underlying36 rfl (by kernel_rfl)) rfl ?_
   exact ⟨_, rfl, Kd.V_mk (Kd.V_reads' HN4.out).2.1 (Kd.F_mono (Kd.F_far (p := ⟨w.heap.size + 1, 3, none⟩) (Kd.F_far (p := ⟨w.heap.size + 1, 2, none⟩) (Kd.F_far (p := ⟨w.heap.size + 1, 1, none⟩) (Kd.F_far (p := ⟨w.heap.size + 1, 0, none⟩) (Kd.V_F HN4.out) (fun k hk => by simp only; omega) _) (fun k hk => by simp only; omega) _) (fun k hk => by simp only; omega) _) (fun k hk => by simp only; omega) _) (fun k hk => by omega)), below_set (below_set (below_set (below_set HB4.out (by omega)) (by omega)) (by omega)) (by omega)⟩
section rit
def cutR (l : List S36) (a b : Int) : List S36 := (l.take b.toNat).drop a.toNat
def outR (l : List S36) (a b : Int) : Bool := decide (a < 0) || decide (b < a) || decide ((l.length : Int) < b)
end rit
def selection_Items.f (k : Nat) (a0_0 : Int) (a0_1 : ByteArray) (a0_2 : Int) (l0_3 : List (S36)) (l1_0 : List Int) (a1_1 : Int) (a1_2 : Int) : Option ((List (S36)) × Int) :=
 (node_Row.f k a0_0 a0_1 a0_2 l0_3 l1_0).bind fun y => some (if y.2.2.2.2 = 0 then (if outR y.2.2.2.1 a1_1 a1_2 = true then ([], 2) else (cutR y.2.2.2.1 a1_1 a1_2, 0)) else ([], y.2.2.2.2))
set_option maxHeartbeats 4000000 in
set_option maxRecDepth 100000 in

theorem selection_Items.calls (k : Nat) (a0_0 : Int) (a0_1 : ByteArray) (a0_2 : Int) (A0_3 : Option Addr) (c0_3 : Nat) (l0_3 : List (S36)) (A1_0 : Option Addr) (c1_0 : Nat) (l1_0 : List Int) (a1_1 : Int) (a1_2 : Int) (r1 : List (S36)) (r2 : Int) (w : World) (hr0_3 : Kd.C k36 w A0_3 l0_3.length l0_3) (hc0_3 : l0_3.length ≤ c0_3) (hr1_0 : Kd.C (Kd.int .i64) w A1_0 l1_0.length l1_0) (hc1_0 : l1_0.length ≤ c1_0) (h : selection_Items.f k a0_0 a0_1 a0_2 l0_3 l1_0 a1_1 a1_2 = some (r1, r2)) :
  Calls Tryd.prog 58 #[.agg #[.int .i64 a0_0, .string a0_1, .int .i64 a0_2, .slice A0_3 l0_3.length c0_3], .agg #[.slice A1_0 l1_0.length c1_0, .int .i64 a1_1, .int .i64 a1_2]] w fun e w' => ∃ v0_ : Value, e = .returned (.tuple #[v0_, .int .i64 r2]) ∧ Kd.V k36 36 w' w.heap.size (fun k_ => (w.heap.size ≤ k_)) v0_ r1 ∧ Below w.heap.size w w' := by
 have hu36 := Tryd.underlying36
 have hu54 := Tryd.underlying54
 obtain ⟨⟨q0, q1, q2, q3, g⟩, hV, e1⟩ := Option.bind_eq_some_iff.mp h
 simp only [Option.some.injEq] at e1
 have HR0 := Aside0.mk hr0_3
 have HR1 := Aside0.mk hr1_0
 have HV := Aside0.mk hV
 have H := Aside0.mk e1
 clear h hr0_3 hr1_0 hV e1
 have HB0 := Aside0.mk (below_alloc (below_alloc (Below.refl w.heap.size w) (.cells #[.int .i64 a0_0, .string a0_1, .int .i64 a0_2, .slice A0_3 l0_3.length c0_3] 36)) (.cells #[.slice A1_0 l1_0.length c1_0, .int .i64 a1_1, .int .i64 a1_2] 54))
 have Y0 := blk_new (w.alloc (.cells #[.int .i64 a0_0, .string a0_1, .int .i64 a0_2, .slice A0_3 l0_3.length c0_3] 36)) (.cells #[.slice A1_0 l1_0.length c1_0, .int .i64 a1_1, .int .i64 a1_2] 54)
 rw [World.size_alloc] at Y0
 have HY0 := Aside0.mk Y0
 clear Y0
 go_enter Tryd.func58, Tryd.ntmps58
 go_wp2_with fail
 refine (node_Row.calls k a0_0 a0_1 a0_2 A0_3 c0_3 l0_3 A1_0 c1_0 l1_0 q0 q1 q2 q3 g _ (Kd.C_below HR0.out HB0.out) hc0_3 (Kd.C_below HR1.out HB0.out) hc1_0 HV.out).mono ?_
 rintro e w2 ⟨v2, rfl, hN, hb⟩
 obtain ⟨A2, c2, rfl⟩ := Kd.V_slice hN
 have HY2 := Aside0.mk (blk_alloc (blk_below HY0.out hb) (.cells #[.int .i64 q0, .string q1, .int .i64 q2, .slice A2 q3.length c2] 36))
 have HZ2 := Aside0.mk (blk_new w2 (.cells #[.int .i64 q0, .string q1, .int .i64 q2, .slice A2 q3.length c2] 36))
 have HB2 := Aside0.mk (below_alloc (below_step HB0.out hb) (.cells #[.int .i64 q0, .string q1, .int .i64 q2, .slice A2 q3.length c2] 36))
 have L2 := Aside0.mk (Kd.V_reads' hN).2.1
 have F2 := Aside0.mk (Kd.F_alloc (Kd.F_mono (Kd.V_F hN) (fun k (hk : _ ≤ k) => Nat.le_trans HB0.out.size hk)) (.cells #[.int .i64 q0, .string q1, .int .i64 q2, .slice A2 q3.length c2] 36))
 clear hN hb HY0 HB0 HV
 have y0_ := (blk_cell HY2.out 0).trans rfl
 have y1_ := (blk_cell HY2.out 1).trans rfl
 have y2_ := (blk_cell HY2.out 2).trans rfl
 have z3_ := (blk_cell HZ2.out 3).trans rfl
 by_cases hg : g = 0
 case neg =>
  have hg1 : (g != 0) = true := by simpa using hg
  have e2 := H.out
  rw [if_neg hg] at e2
  simp only [Prod.mk.injEq] at e2
  obtain ⟨rfl, rfl⟩ := e2
  clear H hg
  go_wp2
  go_ret2
  exact ⟨_, rfl, Kd.V_nil _ _ _ _ _, HB2.out⟩
 subst hg
 have e2 := H.out
 rw [if_pos rfl] at e2
 clear H
 have H := Aside0.mk e2
 clear e2
 have key : ∀ (P : Prop), (outR q3 a1_1 a1_2 = true → P) → (0 ≤ a1_1 → a1_1 ≤ a1_2 → a1_2 ≤ q3.length → P) → P := by
  intro P h1 h2
  by_cases ho : outR q3 a1_1 a1_2 = true
  ·
   exact h1 ho
  ·
   unfold outR at ho
   simp only [Bool.or_eq_true, decide_eq_true_eq, not_or] at ho
   exact h2 (by omega) (by omega) (by omega)
 refine key _ (fun ho => ?_) (fun h1 h2 h3 => ?_)
 ·
  have e2 := H.out
  rw [if_pos ho] at e2
  simp only [Prod.mk.injEq] at e2
  obtain ⟨rfl, rfl⟩ := e2
  unfold outR at ho
  clear H key
  by_cases d1 : a1_1 < 0
  case' pos => have dd1 := decide_eq_true d1
  case' neg =>
   have dd1 := decide_eq_false d1
   by_cases d2 : a1_2 < a1_1
   case' pos => have dd2 := decide_eq_true d2
   case' neg =>
    have dd2 := decide_eq_false d2
    have dd3 : decide ((q3.length : Int) < a1_2) = true := by simpa [dd1, dd2] using ho
  all_goals
   clear ho d1
   go_wp2
   go_ret2
   exact ⟨_, rfl, Kd.V_nil _ _ _ _ _, HB2.out⟩
 ·
  have e2 := H.out
  have ho : ¬ outR q3 a1_1 a1_2 = true := by
   unfold outR
   simp only [Bool.or_eq_true, decide_eq_true_eq, not_or]
   omega
  rw [if_neg ho] at e2
  simp only [Prod.mk.injEq] at e2
  obtain ⟨rfl, rfl⟩ := e2
  have dd1 := decide_eq_false (show ¬ a1_1 < 0 by omega)
  have dd2 := decide_eq_false (show ¬ a1_2 < a1_1 by omega)
  have dd3 := decide_eq_false (show ¬ (q3.length : Int) < a1_2 by omega)
  clear ho H key
  obtain ⟨m, rfl⟩ : ∃ m : Nat, a1_1 = m := ⟨a1_1.toNat, by omega⟩
  obtain ⟨n, rfl⟩ : ∃ n : Nat, a1_2 = n := ⟨a1_2.toNat, by omega⟩
  have hmn : m ≤ n := by omega
  have hnl : n ≤ q3.length := by omega
  have d2n : decide (n < m) = false := decide_eq_false (by omega)
  have d3n : decide (q3.length < n) = false := decide_eq_false (by omega)
  have hnc : n ≤ c2 := Nat.le_trans hnl L2.out
  have FM := Kd.F_mid F2.out hmn hnl L2.out
  have hlen : ((q3.take n).drop m).length = n - m := by simp; omega
  have HM := Aside0.mk FM
  have HL := Aside0.mk hlen
  have HC2 := Aside0.mk (Kd.F_now F2.out)
  clear FM hlen F2
  have hv : ∀ (A : Option Addr) (W : World) (P : Nat → Prop), (∀ k, P k → w.heap.size ≤ k) → Kd.F k36 W P A ((q3.take n).drop m).length ((q3.take n).drop m) → n - m ≤ c2 - m → Kd.V k36 36 W w.heap.size (fun k_ => w.heap.size ≤ k_) (.slice A (n - m) (c2 - m)) (cutR q3 m n) := by
   intro A W P hP hF hle
   refine ⟨A, c2 - m, ?_, ?_, ?_⟩
   ·
    unfold cutR; simp only [Int.toNat_natCast]; rw [HL.out]
   ·
    unfold cutR; simp only [Int.toNat_natCast]; rw [HL.out]; exact hle
   ·
    exact Kd.F_mono hF hP
  have HV := Aside0.mk hv
  clear hv
  have h3w : 0 < q3.length → ∃ ad2, A2 = some ad2 := fun hp => by obtain ⟨ad, e, _⟩ := (HC2.out).2.2 (by omega); exact ⟨ad, e⟩
  have HM2 := HM.out
  clear HM
  have hsz := HB2.out.size
  rcases A2 with _ | ad2
  ·
   have hz : q3.length = 0 := by
    rcases Nat.eq_zero_or_pos q3.length with h | h
    ·
     exact h
    ·
     obtain ⟨_, e⟩ := h3w h; cases e
   obtain rfl : m = 0 := by omega
   obtain rfl : n = 0 := by omega
   have HS := Aside0.mk HM2
   clear h3w HM2 hz
   go_wp2
   go_ret2
   exact ⟨_, rfl, HV.out none _ _ (fun k hk => hk) (by have := HS.out; simp only [Option.map_none, ite_self] at this; exact this) (by omega), HB2.out⟩
  ·
   by_cases hcap : c2 = m
   ·
    rw [if_pos hcap] at HM2
    subst hcap
    obtain rfl : n = c2 := by omega
    have HS := Aside0.mk HM2
    clear h3w HM2
    go_wp2
    go_ret2
    exact ⟨_, rfl, (by have := HV.out (some ad2) _ _ (fun k hk => hk) HS.out (Nat.le_refl _); simpa using this), HB2.out⟩
   ·
    rw [if_neg hcap] at HM2
    have HS := Aside0.mk HM2
    clear h3w HM2
    go_wp2
    go_ret2
    exact ⟨_, rfl, HV.out (some (ad2.add (m * 4))) _ _ (fun k hk => hk) HS.out (by omega), HB2.out⟩
end Go.Proofs.YtagkhoeidjlahaaDoor.G
namespace Go.Proofs.YtagkhoeidjlahaaDoor.G.Pure
open Go.Proofs.YtagkhoeidjlahaaDoorW.PrintWords Go.RowKit
set_option linter.unusedVariables false
set_option linter.unusedSimpArgs false
def wlk : List Int → S36 → S36 × Bool
 | a :: b :: p, x => if 0 ≤ a ∧ a < x.f3.length then (if 0 ≤ b ∧ b < (rd_T36 x.f3 a).f3.length then wlk p (rd_T36 (rd_T36 x.f3 a).f3 b) else (z36, false)) else (z36, false)
 | p, x => (x, decide (p.length = 0))
theorem fnd_ev : ∀ (n : Nat) (p : List Int) (x : S36), p.length ≤ n → Ev (fun k => fnd k p x) (wlk p x) := by
 intro n
 induction n with
 | zero =>
  intro p x h
  obtain rfl : p = [] := List.eq_nil_of_length_eq_zero (by omega)
  refine Ev.step (fun k => by rw [fnd]) ?_
  exact ev_if (fun h => by simp at h) fun _ => ev_now rfl
 | succ n ih =>
  intro p x h
  refine Ev.step (fun k => by rw [fnd]) ?_
  match p with
  | [] => exact ev_if (fun h => by simp at h) fun _ => ev_now rfl
  | [a] => exact ev_if (fun h => by simp at h) fun _ => ev_now rfl
  | a :: b :: p =>
   refine ev_if (fun _ => ?_) fun h => by simp at h
   rw [wlk, show rd (a :: b :: p) 0 = a from rfl, show rd (a :: b :: p) 1 = b from rfl]
   refine ev_if (fun h1 => ?_) fun h1 => ev_now (by rw [if_neg h1])
   rw [if_pos h1]
   refine ev_if (fun h2 => ?_) fun h2 => ev_now (by rw [if_neg h2])
   rw [if_pos h2]
   exact ih p _ (by simp at h; omega)
theorem cntL_mem {l : List S36} {y : S36} (h : y ∈ l) : cnt y ≤ cntL l := by
 induction l with
 | nil => cases h
 | cons z l ih =>
  rw [cntL]
  rcases List.mem_cons.1 h with rfl | h
  ·
   omega
  ·
   have := ih h; omega
theorem len_cntL : ∀ (l : List S36), l.length ≤ cntL l
 | [] => by simp [cntL]
 | y :: l => by have := len_cntL l; have := cnt_pos y; rw [cntL, List.length_cons]; omega
theorem okD_of : ∀ (n : Nat) (l : List S36) (k : Nat), cntL l ≤ n → n ≤ 1000000 → n < k → okD k l = true := by
 intro n
 induction n with
 | zero =>
  intro l k h _ hk
  obtain ⟨k, rfl⟩ : ∃ j, k = j + 1 := ⟨k - 1, by omega⟩
  have := len_cntL l
  obtain rfl : l = [] := List.eq_nil_of_length_eq_zero (by omega)
  simp [okD]
 | succ n ih =>
  intro l k h hn hk
  obtain ⟨k, rfl⟩ : ∃ j, k = j + 1 := ⟨k - 1, by omega⟩
  have := len_cntL l
  rw [okD, Bool.and_eq_true, decide_eq_true_eq, List.all_eq_true]
  refine ⟨by omega, fun y hy => ih y.f3 k ?_ (by omega) (by omega)⟩
  have h1 := cntL_mem hy
  rw [cnt_eq] at h1
  omega
theorem rdT_cnt (l : List S36) (i : Int) (h0 : 0 ≤ i) (h1 : i < l.length) : cnt (rd_T36 l i) ≤ cntL l := by
 obtain ⟨n, rfl⟩ : ∃ n : Nat, i = n := ⟨i.toNat, by omega⟩
 rw [rdT_at l n (by omega)]
 exact cntL_mem (List.getElem_mem _)
theorem wlk_cnt : ∀ (n : Nat) (p : List Int) (x : S36), p.length ≤ n → cnt (wlk p x).1 ≤ cnt x := by
 have z1 : cnt z36 = 1 := by rw [cnt_eq]; rfl
 intro n
 induction n with
 | zero =>
  intro p x h
  obtain rfl : p = [] := List.eq_nil_of_length_eq_zero (by omega)
  exact Nat.le_refl _
 | succ n ih =>
  intro p x h
  match p with
  | [] => exact Nat.le_refl _
  | [a] => exact Nat.le_refl _
  | a :: b :: p =>
   have := cnt_pos x
   rw [wlk]
   split
   ·
    split
    ·
     rename_i h1 h2
     have q1 := ih p (rd_T36 (rd_T36 x.f3 a).f3 b) (by simp at h; omega)
     have q2 := rdT_cnt _ b h2.1 h2.2
     have q3 := rdT_cnt _ a h1.1 h1.2
     rw [cnt_eq (rd_T36 x.f3 a)] at q3
     rw [cnt_eq x]
     omega
    ·
     rw [z1]; omega
   ·
    rw [z1]; omega
def rowB (x : S36) (p : List Int) : S36 × Int := if validB x = true then (if (wlk p x).2 = true then ((wlk p x).1, 0) else (z36, 8)) else (z36, 1)
theorem nRow_ev (x : S36) (hx : OkNode x) (hc : cnt x ≤ 100000) (p : List Int) : Ev (fun k => node_Row.f k x.f0 x.f1 x.f2 x.f3 p) ((rowB x p).1.f0, (rowB x p).1.f1, (rowB x p).1.f2, (rowB x p).1.f3, (rowB x p).2) := by
 unfold node_Row.f rowB
 simp only [node_eta]
 refine ev_bind (nValid_ev x hx) ?_
 refine ev_if (fun h => ?_) fun h => ev_now (by rw [if_neg h]; rfl)
 rw [if_pos h]
 refine ev_bind (fnd_ev p.length p x (Nat.le_refl _)) ?_
 refine ev_if (fun h2 => ?_) fun h2 => ev_now (by rw [if_neg h2]; rfl)
 rw [if_pos h2]
 have hw := wlk_cnt p.length p x (Nat.le_refl _)
 rw [cnt_eq (wlk p x).1] at hw
 refine ev_bind (a := ((wlk p x).1.f0, (wlk p x).1.f1, (wlk p x).1.f2, (wlk p x).1.f3)) ⟨100001, fun k hk => ?_⟩ (Ev.now _)
 show node_clone.f k (wlk p x).1.f0 (wlk p x).1.f1 (wlk p x).1.f2 (wlk p x).1.f3 = _
 unfold node_clone.f
 rw [if_pos (okD_of 100000 _ k (by omega) (by omega) (by omega))]
def itB (x : S36) (p : List Int) (a b : Int) : List S36 × Int := if (rowB x p).2 = 0 then (if outR (rowB x p).1.f3 a b = true then ([], 2) else (cutR (rowB x p).1.f3 a b, 0)) else ([], (rowB x p).2)
theorem nItems_ev (x : S36) (hx : OkNode x) (hc : cnt x ≤ 100000) (p : List Int) (a b : Int) : Ev (fun k => selection_Items.f k x.f0 x.f1 x.f2 x.f3 p a b) (itB x p a b) := by
 unfold selection_Items.f itB
 exact ev_bind (nRow_ev x hx hc p) (Ev.now _)
end Go.Proofs.YtagkhoeidjlahaaDoor.G.Pure
