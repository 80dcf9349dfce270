-- Written by pack2.py, a program of this session: this session's texts and those that the kit's printer wrote for this claim, pruned to what the claims use.
import Derived.Test.YtagkhoeidjlahaaDoorCSi2
import Derived.Test.YtagkhoeidjlahaaDoorCSi28
import Derived.Test.YtagkhoeidjlahaaDoorCSi29
import Derived.Test.YtagkhoeidjlahaaDoorCSi33
import Derived.Test.YtagkhoeidjlahaaDoorCSi35
namespace Go.Proofs.YtagkhoeidjlahaaDoor.G
open Go.RowKit Go.Proofs.YtagkhoeidjlahaaDoorW.PrintWords Go.Proofs.YtagkhoeidjlahaaDoorW.PrintLast Go.Proofs.YtagkhoeidjlahaaDoorW.PrintMore
attribute [local go_sem] max2_int min2_int max_two min_two max_three min_three max_four min_four
set_option linter.unusedVariables false
set_option linter.unusedSimpArgs false
def vinculumlaw11_SelectionItems.f (k : Nat) (a0_0 : Int) (a0_1 : ByteArray) (a0_2 : Int) (l0_3 : List (S36)) (l1_0 : List Int) (a1_1 : Int) (a1_2 : Int) : Option Bool :=
 (vinculumlaw11_awake.f k).bind fun t => if t = true then ((vinculumlaw11_few.f k a0_0 a0_1 a0_2 l0_3 l1_0 []).bind fun t2 => if t2 = true then
  ((selection_Items.f k a0_0 a0_1 a0_2 l0_3 l1_0 a1_1 a1_2).bind fun p => (rItems k ⟨a0_0, a0_1, a0_2, l0_3⟩ l1_0 a1_1 a1_2).bind fun q => if p.2 = q.2 ∧ q.1.length ≤ 1000000 then vinculumref09_SameItems.f k p.1 q.1 else none) else some true) else none
set_option maxHeartbeats 4000000 in

theorem vinculumlaw11_SelectionItems.calls (k : Nat) (a0_0 : Int) (a0_1 : ByteArray) (a0_2 : Int) (A0_3 : Option Addr) (c0_3 : Nat) (l0_3 : List (S36)) (A1_0 : Option Addr) (c1_0 : Nat) (l1_0 : List Int) (a1_1 : Int) (a1_2 : Int) (r : Bool) (w : World) (hr0_3 : Kd.C k36 w A0_3 l0_3.length l0_3) (hc0_3 : l0_3.length ≤ c0_3) (hr1_0 : Kd.C (Kd.int .i64) w A1_0 l1_0.length l1_0) (hc1_0 : l1_0.length ≤ c1_0) (h : vinculumlaw11_SelectionItems.f k a0_0 a0_1 a0_2 l0_3 l1_0 a1_1 a1_2 = some r) :
  Calls Tryd.prog 15 #[.agg #[.int .i64 a0_0, .string a0_1, .int .i64 a0_2, .slice A0_3 l0_3.length c0_3], .agg #[.slice A1_0 l1_0.length c1_0, .int .i64 a1_1, .int .i64 a1_2]] w fun e w' => e = .returned (.bool r) ∧ Below w.heap.size w w' := by
 have hu36 := Tryd.underlying36
 have hu54 := Tryd.underlying54
 replace h := Option.bind_eq_some_iff.mp h
 obtain ⟨t, hA, h⟩ := h
 by_cases ht : t = true
 case neg => rw [if_neg ht] at h; exact absurd h (by simp)
 subst ht
 rw [if_pos rfl] at h
 obtain ⟨t2, hF, e0⟩ := Option.bind_eq_some_iff.mp h
 clear h
 have HR0 := Aside0.mk hr0_3
 have HC0 := Aside0.mk hc0_3
 have HR1 := Aside0.mk hr1_0
 have HC1 := Aside0.mk hc1_0
 have HA := Aside0.mk hA
 have HF := Aside0.mk hF
 have H := Aside0.mk e0
 clear hr0_3 hc0_3 hr1_0 hc1_0 hA hF e0
 have HX0 := Aside0.mk (blk_alloc (blk_new w (.cells #[.int .i64 a0_0, .string a0_1, .int .i64 a0_2, .slice A0_3 l0_3.length c0_3] 36)) (.cells #[.slice A1_0 l1_0.length c1_0, .int .i64 a1_1, .int .i64 a1_2] 54))
 have Y0 := blk_new (w.alloc (.cells #[.int .i64 a0_0, .string a0_1, .int .i64 a0_2, .slice A0_3 l0_3.length c0_3] 36)) (.cells #[.slice A1_0 l1_0.length c1_0, .int .i64 a1_1, .int .i64 a1_2] 54)
 rw [World.size_alloc] at Y0
 have HY0 := Aside0.mk Y0
 have HB0 := Aside0.mk (below_alloc (below_alloc (Below.refl w.heap.size w) (.cells #[.int .i64 a0_0, .string a0_1, .int .i64 a0_2, .slice A0_3 l0_3.length c0_3] 36)) (.cells #[.slice A1_0 l1_0.length c1_0, .int .i64 a1_1, .int .i64 a1_2] 54))
 clear Y0
 go_enter Tryd.func15, Tryd.ntmps15
 go_wp2_with fail
 refine (vinculumlaw11_awake.calls k true _ HA.out).mono ?_
 rintro e w1 ⟨rfl, hb⟩
 have HX1 := Aside0.mk (blk_below HX0.out hb)
 have HY1 := Aside0.mk (blk_below HY0.out hb)
 have HB1 := Aside0.mk (below_step HB0.out hb)
 clear hb HX0 HY0 HB0
 have q0 := (blk_cell HX1.out 0).trans rfl
 have q1 := (blk_cell HX1.out 1).trans rfl
 have q2 := (blk_cell HX1.out 2).trans rfl
 have q3 := (blk_cell HX1.out 3).trans rfl
 have y0 := (blk_cell HY1.out 0).trans rfl
 go_wp2_with fail
 refine (vinculumlaw11_few.calls k a0_0 a0_1 a0_2 A0_3 c0_3 l0_3 A1_0 c1_0 l1_0 none 0 [] t2 _ (Kd.C_below HR0.out HB1.out) HC0.out (Kd.C_below HR1.out HB1.out) HC1.out (Kd.C_nil _ _) (Nat.le_refl _) HF.out).mono ?_
 rintro e w2 ⟨rfl, hb⟩
 have HX2 := Aside0.mk (blk_below HX1.out hb)
 have HY2 := Aside0.mk (blk_below HY1.out hb)
 have HB2 := Aside0.mk (below_step HB1.out hb)
 clear hb HX1 HY1 HB1 q0 q1 q2 q3 y0 HF
 cases t2 with
 | false =>
  obtain rfl : true = r := by have := H.out; simpa using this
  go_wp2_with fail
  refine (vinculumlaw11_awake.calls k true _ HA.out).mono ?_
  rintro e w3 ⟨rfl, hb⟩
  have HB3 := Aside0.mk (below_step HB2.out hb)
  clear hb
  go_wp2
  go_ret
  exact ⟨rfl, HB3.out⟩
 | true =>
  have e1 := H.out
  rw [if_pos rfl] at e1
  clear H
  obtain ⟨⟨p1, p2⟩, hP, e2⟩ := Option.bind_eq_some_iff.mp e1
  clear e1
  obtain ⟨⟨u1, u2⟩, hU, e3⟩ := Option.bind_eq_some_iff.mp e2
  clear e2
  by_cases he : p2 = u2 ∧ u1.length ≤ 1000000
  case neg => rw [if_neg he] at e3; exact absurd e3 (by simp)
  rw [if_pos he] at e3
  obtain ⟨rfl, hk2⟩ := he
  have HP := Aside0.mk hP
  have HU := Aside0.mk hU
  have HK := Aside0.mk e3
  have HL := Aside0.mk hk2
  clear hP hU e3 hk2
  have q0 := (blk_cell HX2.out 0).trans rfl
  have q1 := (blk_cell HX2.out 1).trans rfl
  have q2 := (blk_cell HX2.out 2).trans rfl
  have q3 := (blk_cell HX2.out 3).trans rfl
  have y0 := (blk_cell HY2.out 0).trans rfl
  have y1 := (blk_cell HY2.out 1).trans rfl
  have y2 := (blk_cell HY2.out 2).trans rfl
  go_wp2_with fail
  refine (selection_Items.calls k a0_0 a0_1 a0_2 A0_3 c0_3 l0_3 A1_0 c1_0 l1_0 a1_1 a1_2 p1 p2 _ (Kd.C_below HR0.out HB2.out) HC0.out (Kd.C_below HR1.out HB2.out) HC1.out HP.out).mono ?_
  rintro e w3 ⟨v3, rfl, hN, hb⟩
  obtain ⟨P1, dP, rfl⟩ := Kd.V_slice hN
  have LP := Aside0.mk (Kd.V_reads' hN).2.1
  have CP := Aside0.mk (Kd.F_now (Kd.V_F hN))
  have HX3 := Aside0.mk (blk_below HX2.out hb)
  have HY3 := Aside0.mk (blk_below HY2.out hb)
  have HB3 := Aside0.mk (below_step HB2.out hb)
  clear hb hN HX2 HY2 HB2 q0 q1 q2 q3 y0 y1 y2
  have q0 := (blk_cell HX3.out 0).trans rfl
  have q1 := (blk_cell HX3.out 1).trans rfl
  have q2 := (blk_cell HX3.out 2).trans rfl
  have q3 := (blk_cell HX3.out 3).trans rfl
  have y0 := (blk_cell HY3.out 0).trans rfl
  have y1 := (blk_cell HY3.out 1).trans rfl
  have y2 := (blk_cell HY3.out 2).trans rfl
  go_wp2_with fail
  refine (rItems_calls k ⟨a0_0, a0_1, a0_2, l0_3⟩ A0_3 c0_3 A1_0 c1_0 l1_0 a1_1 a1_2 u1 p2 _ (Kd.C_below HR0.out HB3.out) HC0.out (Kd.C_below HR1.out HB3.out) HC1.out HL.out HU.out).mono ?_
  rintro e w4 ⟨v4, rfl, hN, hb⟩
  obtain ⟨U1, dU, rfl⟩ := Kd.V_slice hN
  have LU := Aside0.mk (Kd.V_reads' hN).2.1
  have CU := Aside0.mk (Kd.F_now (Kd.V_F hN))
  have CP4 := Aside0.mk (Kd.C_below CP.out hb)
  have HB4 := Aside0.mk (below_step HB3.out hb)
  clear hb hN HX3 HY3 HB3 CP q0 q1 q2 q3 y0 y1 y2
  have hee : (p2 == p2) = true := beq_self_eq_true p2
  go_wp2_with fail
  refine (vinculumref09_SameItems.calls k P1 dP p1 U1 dU u1 r _ CP4.out LP.out CU.out LU.out HK.out).mono ?_
  rintro e w5 ⟨rfl, hb⟩
  have HB5 := Aside0.mk (below_step HB4.out hb)
  clear hb
  go_wp2
  go_ret
  exact ⟨rfl, HB5.out⟩
end Go.Proofs.YtagkhoeidjlahaaDoor.G
namespace Go.Proofs.YtagkhoeidjlahaaDoor.G.Pure
open Go.Proofs.YtagkhoeidjlahaaDoorW.PrintWords Go.RowKit
set_option linter.unusedVariables false
set_option linter.unusedSimpArgs false
theorem SelectionItems (x : S36) (y : List Int × Int × Int) (hx : OkNode x) (hy : OkRange y) : ∃ k, vinculumlaw11_SelectionItems.f k x.f0 x.f1 x.f2 x.f3 y.1 y.2.1 y.2.2 = some true := by
 apply Ev.rounds
 unfold vinculumlaw11_SelectionItems.f
 refine ev_bind awake11_ev ?_
 refine ev_if (fun _ => ?_) fun h => absurd rfl h
 refine ev_bind (few11_ev x hx y.1 []) ?_
 refine ev_if (fun h => ?_) fun _ => Ev.now _
 rw [decide_eq_true_eq] at h
 obtain ⟨h1, h2, h3⟩ := h
 refine ev_bind (nItems_ev x hx (by omega) y.1 y.2.1 y.2.2) ?_
 simp only [node_eta]
 refine ev_bind (rItems_ev x hx (by omega) y.1 y.2.1 y.2.2) ?_
 have hc := itB_cnt x y.1 y.2.1 y.2.2
 have hl := len_cntL (itB x y.1 y.2.1 y.2.2).1
 refine ev_if (fun _ => ?_) fun h => absurd ⟨rfl, by omega⟩ h
 exact sameI_ev _ (by omega)
end Go.Proofs.YtagkhoeidjlahaaDoor.G.Pure
