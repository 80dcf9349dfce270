-- Written by pack2.py: this session's texts and the printer's, pruned.
import Derived.Test.YtagkhoeidjlahaaDoorCSe2
import Derived.Test.YtagkhoeidjlahaaDoorCSe27
import Derived.Test.YtagkhoeidjlahaaDoorCSe32
import Derived.Test.YtagkhoeidjlahaaDoorCSe33
import Derived.Test.YtagkhoeidjlahaaDoorCSe31
import Derived.Test.YtagkhoeidjlahaaDoorCSe37
import Derived.Test.YtagkhoeidjlahaaDoorCSe38
import Derived.Test.YtagkhoeidjlahaaDoorCSe39
import Derived.Test.YtagkhoeidjlahaaDoorCSe36
namespace Go.Proofs.YtagkhoeidjlahaaDoor.G
open Go.RowKit Go.Proofs.YtagkhoeidjlahaaDoorW.PrintWords Go.Proofs.YtagkhoeidjlahaaDoorW.PrintLast Go.Proofs.YtagkhoeidjlahaaDoorW.PrintMore
attribute [local go_sem] max2_int min2_int max_two min_two max_three min_three max_four min_four
set_option linter.unusedVariables false
set_option linter.unusedSimpArgs false
def vinculumlaw11_SelectionEnds.f (k : Nat) (a0_0 : Int) (a0_1 : ByteArray) (a0_2 : Int) (l0_3 : List (S36)) (l1_0 : List Int) (a1_1 : Int) (a1_2 : Int) : Option Bool :=
 (vinculumlaw11_awake.f k).bind fun t => if t = true then ((vinculumlaw11_few.f k a0_0 a0_1 a0_2 l0_3 l1_0 []).bind fun t2 => if t2 = true then
  ((selection_Items.f k a0_0 a0_1 a0_2 l0_3 l1_0 a1_1 a1_2).bind fun p => if p.2 = 0 then
   ((selection_Start.f l1_0 a1_1 a1_2).bind fun s => (selection_End.f l1_0 a1_1 a1_2).bind fun e => (selection_Between.f k a0_0 a0_1 a0_2 l0_3 s e).bind fun q => if q.2.2.2 = 0 then
    ((vinculumref11_Same.f k l1_0 a1_1 a1_2 q.1 q.2.1 q.2.2.1).bind fun z => if z = true then ((vinculumref10_Valid.f k a0_0 a0_1 a0_2 l0_3 s).bind fun z1 => if z1 = true then ((vinculumref10_Valid.f k a0_0 a0_1 a0_2 l0_3 e).bind fun z2 => if z2 = true ∧ (p.1.length : Int) = wrap64 (a1_2 - a1_1) then some true else none) else none) else none) else none)
   else (if p.1.length = 0 then some true else none)) else some true) else none
set_option maxHeartbeats 4000000 in
set_option maxRecDepth 100000 in

theorem vinculumlaw11_SelectionEnds.calls (k : Nat) (a0_0 : Int) (a0_1 : ByteArray) (a0_2 : Int) (A0_3 : Option Addr) (c0_3 : Nat) (l0_3 : List (S36)) (A1_0 : Option Addr) (c1_0 : Nat) (l1_0 : List Int) (a1_1 : Int) (a1_2 : Int) (r : Bool) (w : World) (hr0_3 : Kd.C k36 w A0_3 l0_3.length l0_3) (hc0_3 : l0_3.length ≤ c0_3) (hr1_0 : Kd.C (Kd.int .i64) w A1_0 l1_0.length l1_0) (hc1_0 : l1_0.length ≤ c1_0) (h : vinculumlaw11_SelectionEnds.f k a0_0 a0_1 a0_2 l0_3 l1_0 a1_1 a1_2 = some r) :
  Calls Tryd.prog 16 #[.agg #[.int .i64 a0_0, .string a0_1, .int .i64 a0_2, .slice A0_3 l0_3.length c0_3], .agg #[.slice A1_0 l1_0.length c1_0, .int .i64 a1_1, .int .i64 a1_2]] w fun e w' => e = .returned (.bool r) ∧ Below w.heap.size w w' := by
 have hu36 := Tryd.underlying36
 have hu54 := Tryd.underlying54
 replace h := Option.bind_eq_some_iff.mp h
 obtain ⟨t, hA, h⟩ := h
 by_cases ht : t = true
 case neg => rw [if_neg ht] at h; exact absurd h (by simp)
 subst ht
 rw [if_pos rfl] at h
 obtain ⟨t2, hF, e0⟩ := Option.bind_eq_some_iff.mp h
 clear h
 have HR0 := Aside0.mk hr0_3
 have HC0 := Aside0.mk hc0_3
 have HR1 := Aside0.mk hr1_0
 have HC1 := Aside0.mk hc1_0
 have HA := Aside0.mk hA
 have HF := Aside0.mk hF
 have H := Aside0.mk e0
 clear hr0_3 hc0_3 hr1_0 hc1_0 hA hF e0
 have HX := Aside0.mk (blk_alloc (blk_new w (.cells #[.int .i64 a0_0, .string a0_1, .int .i64 a0_2, .slice A0_3 l0_3.length c0_3] 36)) (.cells #[.slice A1_0 l1_0.length c1_0, .int .i64 a1_1, .int .i64 a1_2] 54))
 have Y0 := blk_new (w.alloc (.cells #[.int .i64 a0_0, .string a0_1, .int .i64 a0_2, .slice A0_3 l0_3.length c0_3] 36)) (.cells #[.slice A1_0 l1_0.length c1_0, .int .i64 a1_1, .int .i64 a1_2] 54)
 rw [World.size_alloc] at Y0
 have HY := Aside0.mk Y0
 have HB := Aside0.mk (below_alloc (below_alloc (Below.refl w.heap.size w) (.cells #[.int .i64 a0_0, .string a0_1, .int .i64 a0_2, .slice A0_3 l0_3.length c0_3] 36)) (.cells #[.slice A1_0 l1_0.length c1_0, .int .i64 a1_1, .int .i64 a1_2] 54))
 clear Y0
 go_enter Tryd.func16, Tryd.ntmps16
 go_wp2_with fail
 refine (vinculumlaw11_awake.calls k true _ HA.out).mono ?_
 rintro e w1 ⟨rfl, hb⟩
 have nHX := Aside0.mk (blk_below HX.out hb)
 have nHY := Aside0.mk (blk_below HY.out hb)
 have nHB := Aside0.mk (below_step HB.out hb)
 clear hb HX HY HB 
 have HX := nHX
 have HY := nHY
 have HB := nHB
 clear nHX nHY nHB
 have q0 := (blk_cell HX.out 0).trans rfl
 have q1 := (blk_cell HX.out 1).trans rfl
 have q2 := (blk_cell HX.out 2).trans rfl
 have q3 := (blk_cell HX.out 3).trans rfl
 have y0 := (blk_cell HY.out 0).trans rfl
 have y1 := (blk_cell HY.out 1).trans rfl
 have y2 := (blk_cell HY.out 2).trans rfl
 go_wp2_with fail
 refine (vinculumlaw11_few.calls k a0_0 a0_1 a0_2 A0_3 c0_3 l0_3 A1_0 c1_0 l1_0 none 0 [] t2 _ (Kd.C_below HR0.out HB.out) HC0.out (Kd.C_below HR1.out HB.out) HC1.out (Kd.C_nil _ _) (Nat.le_refl _) HF.out).mono ?_
 rintro e w2 ⟨rfl, hb⟩
 have nHX := Aside0.mk (blk_below HX.out hb)
 have nHY := Aside0.mk (blk_below HY.out hb)
 have nHB := Aside0.mk (below_step HB.out hb)
 clear hb HX HY HB q0 q1 q2 q3 y0 y1 y2 HF
 have HX := nHX
 have HY := nHY
 have HB := nHB
 clear nHX nHY nHB
 cases t2 with
 | false =>
  obtain rfl : true = r := by have := H.out; simpa using this
  go_wp2_with fail
  refine (vinculumlaw11_awake.calls k true _ HA.out).mono ?_
  rintro e w3 ⟨rfl, hb⟩
  have HB3 := Aside0.mk (below_step HB.out hb)
  clear hb
  go_wp2
  go_ret
  exact ⟨rfl, HB3.out⟩
 | true =>
  have e1 := H.out
  rw [if_pos rfl] at e1
  clear H HA
  obtain ⟨⟨p1, p2⟩, hP, e2⟩ := Option.bind_eq_some_iff.mp e1
  clear e1
  simp only at e2
  have HP := Aside0.mk hP
  have H := Aside0.mk e2
  clear hP e2
  have q0 := (blk_cell HX.out 0).trans rfl
  have q1 := (blk_cell HX.out 1).trans rfl
  have q2 := (blk_cell HX.out 2).trans rfl
  have q3 := (blk_cell HX.out 3).trans rfl
  have y0 := (blk_cell HY.out 0).trans rfl
  have y1 := (blk_cell HY.out 1).trans rfl
  have y2 := (blk_cell HY.out 2).trans rfl
  go_wp2_with fail
  refine (selection_Items.calls k a0_0 a0_1 a0_2 A0_3 c0_3 l0_3 A1_0 c1_0 l1_0 a1_1 a1_2 p1 p2 _ (Kd.C_below HR0.out HB.out) HC0.out (Kd.C_below HR1.out HB.out) HC1.out HP.out).mono ?_
  rintro e w3 ⟨v3, rfl, hN, hb⟩
  obtain ⟨P1, dP, rfl⟩ := Kd.V_slice hN
  have nHX := Aside0.mk (blk_below HX.out hb)
  have nHY := Aside0.mk (blk_below HY.out hb)
  have nHB := Aside0.mk (below_step HB.out hb)
  clear hb HX HY HB q0 q1 q2 q3 y0 y1 y2 hN HP
  have HX := nHX
  have HY := nHY
  have HB := nHB
  clear nHX nHY nHB
  by_cases hp2 : p2 = 0
  case neg =>
   have e2 := H.out
   rw [if_neg hp2] at e2
   by_cases hl : p1.length = 0
   case neg => rw [if_neg hl] at e2; exact absurd e2 (by simp)
   rw [if_pos hl] at e2
   obtain rfl : true = r := by simpa using e2
   have hp3 : (p2 != 0) = true := by simpa using hp2
   have hl2 : ((p1.length : Int) == 0) = true := by simp [hl]
   clear H e2 hp2
   have HL := Aside0.mk hl
   obtain rfl : p1 = [] := List.eq_nil_of_length_eq_zero hl
   clear hl hl2
   go_wp2
   go_ret
   exact ⟨rfl, HB.out⟩
  subst hp2
  have e2 := H.out
  rw [if_pos rfl] at e2
  clear H
  obtain ⟨s1, hS, e3⟩ := Option.bind_eq_some_iff.mp e2
  clear e2
  obtain ⟨s2, hE, e4⟩ := Option.bind_eq_some_iff.mp e3
  clear e3
  obtain ⟨⟨b1, b2, b3, b4⟩, hQ, e5⟩ := Option.bind_eq_some_iff.mp e4
  clear e4
  simp only at e5
  by_cases hb4 : b4 = 0
  case neg => rw [if_neg hb4] at e5; exact absurd e5 (by simp)
  subst hb4
  rw [if_pos rfl] at e5
  obtain ⟨z, hz, e6⟩ := Option.bind_eq_some_iff.mp e5
  clear e5
  by_cases hzt : z = true
  case neg => rw [if_neg hzt] at e6; exact absurd e6 (by simp)
  subst hzt
  rw [if_pos rfl] at e6
  obtain ⟨z1, hz1, e7⟩ := Option.bind_eq_some_iff.mp e6
  clear e6
  by_cases hzt : z1 = true
  case neg => rw [if_neg hzt] at e7; exact absurd e7 (by simp)
  subst hzt
  rw [if_pos rfl] at e7
  obtain ⟨z2, hz2, e8⟩ := Option.bind_eq_some_iff.mp e7
  clear e7
  by_cases hzt : z2 = true ∧ (p1.length : Int) = wrap64 (a1_2 - a1_1)
  case neg => rw [if_neg hzt] at e8; exact absurd e8 (by simp)
  rw [if_pos hzt] at e8
  obtain ⟨rfl, hlen⟩ := hzt
  obtain rfl : true = r := by simpa using e8
  clear e8
  have HSs := Aside0.mk hS
  have HEe := Aside0.mk hE
  have HQ := Aside0.mk hQ
  have HZs := Aside0.mk hz
  have HV1 := Aside0.mk hz1
  have HV2 := Aside0.mk hz2
  have HLn := Aside0.mk hlen
  clear hS hE hQ hz hz1 hz2 hlen
  have q0 := (blk_cell HX.out 0).trans rfl
  have q1 := (blk_cell HX.out 1).trans rfl
  have q2 := (blk_cell HX.out 2).trans rfl
  have q3 := (blk_cell HX.out 3).trans rfl
  have y0 := (blk_cell HY.out 0).trans rfl
  have y1 := (blk_cell HY.out 1).trans rfl
  have y2 := (blk_cell HY.out 2).trans rfl
  go_upto_region 6 with fail
  go_region_held3 (fun w' => w'.cell? ⟨w.heap.size + 1, 0, none⟩ = some (.slice A1_0 l1_0.length c1_0) ∧ w'.cell? ⟨w.heap.size + 1, 1, none⟩ = some (.int .i64 a1_1) ∧ w'.cell? ⟨w.heap.size + 1, 2, none⟩ = some (.int .i64 a1_2)) (first | exact ⟨y0, y1, y2⟩ | go_keep) (first | (go_at_call 54; (with_reducible refine (selection_Start.calls A1_0 c1_0 l1_0 a1_1 a1_2 s1 _ ?sds1 ?ses1 HSs.out).mono ?_); (case sds1 => first | exact Kd.C_below HR1.out HB.out | exact Kd.C_below HR1.out (below_drew1 HB.out)); (case ses1 => exact HC1.out); rintro e wn ⟨vn, rfl, hR, hb⟩; obtain ⟨As1, ds1, rfl⟩ := Kd.R_slice hR; have CS := Aside0.mk (Kd.R_reads' hR).2.2; have LS := Aside0.mk (Kd.R_reads' hR).2.1; have nHX := Aside0.mk (blk_below (by first | exact HX.out | exact blk_drew HX.out) hb); have nHY := Aside0.mk (blk_below (by first | exact HY.out | exact blk_drew HY.out) hb); have nHB := Aside0.mk (below_step (by first | exact HB.out | exact below_drew1 HB.out) hb); (try (have nCE := Aside0.mk (Kd.C_below CE.out hb); clear CE; have CE := nCE; clear nCE)); clear hb hR HX HY HB q0 q1 q2 q3 y0 y1 y2; have HX := nHX; have HY := nHY; have HB := nHB; clear nHX nHY nHB; have q0 := (blk_cell HX.out 0).trans rfl; have q1 := (blk_cell HX.out 1).trans rfl; have q2 := (blk_cell HX.out 2).trans rfl; have q3 := (blk_cell HX.out 3).trans rfl; have y0 := (blk_cell HY.out 0).trans rfl; have y1 := (blk_cell HY.out 1).trans rfl; have y2 := (blk_cell HY.out 2).trans rfl) | (go_at_call 56; (with_reducible refine (selection_End.calls A1_0 c1_0 l1_0 a1_1 a1_2 s2 _ ?sds2 ?ses2 HEe.out).mono ?_); (case sds2 => first | exact Kd.C_below HR1.out HB.out | exact Kd.C_below HR1.out (below_drew1 HB.out)); (case ses2 => exact HC1.out); rintro e wn ⟨vn, rfl, hR, hb⟩; obtain ⟨As2, ds2, rfl⟩ := Kd.R_slice hR; have CE := Aside0.mk (Kd.R_reads' hR).2.2; have LE := Aside0.mk (Kd.R_reads' hR).2.1; have nHX := Aside0.mk (blk_below (by first | exact HX.out | exact blk_drew HX.out) hb); have nHY := Aside0.mk (blk_below (by first | exact HY.out | exact blk_drew HY.out) hb); have nHB := Aside0.mk (below_step (by first | exact HB.out | exact below_drew1 HB.out) hb); (try (have nCS := Aside0.mk (Kd.C_below CS.out hb); clear CS; have CS := nCS; clear nCS)); clear hb hR HX HY HB q0 q1 q2 q3 y0 y1 y2; have HX := nHX; have HY := nHY; have HB := nHB; clear nHX nHY nHB; have q0 := (blk_cell HX.out 0).trans rfl; have q1 := (blk_cell HX.out 1).trans rfl; have q2 := (blk_cell HX.out 2).trans rfl; have q3 := (blk_cell HX.out 3).trans rfl; have y0 := (blk_cell HY.out 0).trans rfl; have y1 := (blk_cell HY.out 1).trans rfl; have y2 := (blk_cell HY.out 2).trans rfl))
  simp only [Exit.then]
  go_wp2_with fail
  refine (selection_Between.calls k a0_0 a0_1 a0_2 A0_3 c0_3 l0_3 As1 ds1 s1 As2 ds2 s2 b1 b2 b3 0 _ (Kd.C_below HR0.out HB.out) HC0.out CS.out LS.out CE.out LE.out HQ.out).mono ?_
  rintro e w4 ⟨v4, rfl, hR, hb⟩
  obtain ⟨Q1, dQ, rfl⟩ := Kd.R_slice hR
  have CQ := Aside0.mk (Kd.C_alloc (Kd.R_reads' hR).2.2 (.cells #[.slice Q1 b1.length dQ, .int .i64 b2, .int .i64 b3] 54))
  have LQ := Aside0.mk (Kd.R_reads' hR).2.1
  have HZ := Aside0.mk (blk_new w4 (.cells #[.slice Q1 b1.length dQ, .int .i64 b2, .int .i64 b3] 54))
  have nHX := Aside0.mk (blk_alloc (blk_below HX.out hb) (.cells #[.slice Q1 b1.length dQ, .int .i64 b2, .int .i64 b3] 54))
  have nHY := Aside0.mk (blk_alloc (blk_below HY.out hb) (.cells #[.slice Q1 b1.length dQ, .int .i64 b2, .int .i64 b3] 54))
  have nCS := Aside0.mk (Kd.C_alloc (Kd.C_below CS.out hb) (.cells #[.slice Q1 b1.length dQ, .int .i64 b2, .int .i64 b3] 54))
  have nCE := Aside0.mk (Kd.C_alloc (Kd.C_below CE.out hb) (.cells #[.slice Q1 b1.length dQ, .int .i64 b2, .int .i64 b3] 54))
  have nHB := Aside0.mk (below_alloc (below_step HB.out hb) (.cells #[.slice Q1 b1.length dQ, .int .i64 b2, .int .i64 b3] 54))
  clear hb hR HX HY CS CE HB q0 q1 q2 q3 y0 y1 y2
  have HX := nHX
  have HY := nHY
  have CS := nCS
  have CE := nCE
  have HB := nHB
  clear nHX nHY nCS nCE nHB
  have q0 := (blk_cell HX.out 0).trans rfl
  have q1 := (blk_cell HX.out 1).trans rfl
  have q2 := (blk_cell HX.out 2).trans rfl
  have q3 := (blk_cell HX.out 3).trans rfl
  have y0 := (blk_cell HY.out 0).trans rfl
  have y1 := (blk_cell HY.out 1).trans rfl
  have y2 := (blk_cell HY.out 2).trans rfl
  have z0 := (blk_cell HZ.out 0).trans rfl
  have z1 := (blk_cell HZ.out 1).trans rfl
  have z2 := (blk_cell HZ.out 2).trans rfl
  go_wp2_with fail
  refine (vinculumref11_Same.calls k A1_0 c1_0 l1_0 a1_1 a1_2 Q1 dQ b1 b2 b3 true _ (Kd.C_below HR1.out HB.out) HC1.out CQ.out LQ.out HZs.out).mono ?_
  rintro e w5 ⟨rfl, hb⟩
  have nHX := Aside0.mk (blk_below HX.out hb)
  have nHY := Aside0.mk (blk_below HY.out hb)
  have nHB := Aside0.mk (below_step HB.out hb)
  have nCS := Aside0.mk (Kd.C_below CS.out hb)
  have nCE := Aside0.mk (Kd.C_below CE.out hb)
  clear hb HX HY HB CS CE q0 q1 q2 q3 y0 y1 y2 z0 z1 z2 CQ HZ
  have HX := nHX
  have HY := nHY
  have HB := nHB
  have CS := nCS
  have CE := nCE
  clear nHX nHY nHB nCS nCE
  have q0 := (blk_cell HX.out 0).trans rfl
  have q1 := (blk_cell HX.out 1).trans rfl
  have q2 := (blk_cell HX.out 2).trans rfl
  have q3 := (blk_cell HX.out 3).trans rfl
  have y0 := (blk_cell HY.out 0).trans rfl
  have y1 := (blk_cell HY.out 1).trans rfl
  have y2 := (blk_cell HY.out 2).trans rfl
  go_wp2_with fail
  refine (vinculumref10_Valid.calls k a0_0 a0_1 a0_2 A0_3 c0_3 l0_3 As1 ds1 s1 true _ (Kd.C_below HR0.out HB.out) HC0.out CS.out LS.out HV1.out).mono ?_
  rintro e w6 ⟨rfl, hb⟩
  have nHX := Aside0.mk (blk_below HX.out hb)
  have nHY := Aside0.mk (blk_below HY.out hb)
  have nHB := Aside0.mk (below_step HB.out hb)
  have nCE := Aside0.mk (Kd.C_below CE.out hb)
  clear hb HX HY HB CE q0 q1 q2 q3 y0 y1 y2 CS
  have HX := nHX
  have HY := nHY
  have HB := nHB
  have CE := nCE
  clear nHX nHY nHB nCE
  have q0 := (blk_cell HX.out 0).trans rfl
  have q1 := (blk_cell HX.out 1).trans rfl
  have q2 := (blk_cell HX.out 2).trans rfl
  have q3 := (blk_cell HX.out 3).trans rfl
  have y0 := (blk_cell HY.out 0).trans rfl
  have y1 := (blk_cell HY.out 1).trans rfl
  have y2 := (blk_cell HY.out 2).trans rfl
  go_wp2_with fail
  refine (vinculumref10_Valid.calls k a0_0 a0_1 a0_2 A0_3 c0_3 l0_3 As2 ds2 s2 true _ (Kd.C_below HR0.out HB.out) HC0.out CE.out LE.out HV2.out).mono ?_
  rintro e w7 ⟨rfl, hb⟩
  have nHX := Aside0.mk (blk_below HX.out hb)
  have nHY := Aside0.mk (blk_below HY.out hb)
  have nHB := Aside0.mk (below_step HB.out hb)
  clear hb HX HY HB q0 q1 q2 q3 y0 y1 y2 CE
  have HX := nHX
  have HY := nHY
  have HB := nHB
  clear nHX nHY nHB
  have y0 := (blk_cell HY.out 0).trans rfl
  have y1 := (blk_cell HY.out 1).trans rfl
  have y2 := (blk_cell HY.out 2).trans rfl
  have hd : ((p1.length : Int) == wrap64 (a1_2 - a1_1)) = true := by simp [HLn.out]
  go_wp2
  go_ret
  exact ⟨rfl, HB.out⟩
end Go.Proofs.YtagkhoeidjlahaaDoor.G
namespace Go.Proofs.YtagkhoeidjlahaaDoor.G.Pure
open Go.Proofs.YtagkhoeidjlahaaDoorW.PrintWords Go.RowKit
set_option linter.unusedVariables false
set_option linter.unusedSimpArgs false
theorem startE (row : List Int) (a b : Int) (h : row.length ≤ 60) : selection_Start.f row a b = some (row ++ [a]) := by
 unfold selection_Start.f
 rw [clone_ev row (by omega)]
 simp only [Option.bind_some]
 rw [if_pos (by simp; omega)]
theorem endE (row : List Int) (a b : Int) (h : row.length ≤ 60) : selection_End.f row a b = some (row ++ [b]) := by
 unfold selection_End.f
 rw [clone_ev row (by omega)]
 simp only [Option.bind_some]
 rw [if_pos (by simp; omega)]
theorem itB_none (x : S36) (p : List Int) (a b : Int) (h : (itB x p a b).2 ≠ 0) : (itB x p a b).1 = [] := by
 unfold itB at h ⊢
 split at h
 ·
  rw [if_pos (by assumption)]
  split at h
  ·
   rw [if_pos (by assumption)]
  ·
   exact absurd rfl h
 ·
  rw [if_neg (by assumption)]
theorem SelectionEnds (x : S36) (y : List Int × Int × Int) (hx : OkNode x) (hy : OkRange y) : ∃ k, vinculumlaw11_SelectionEnds.f k x.f0 x.f1 x.f2 x.f3 y.1 y.2.1 y.2.2 = some true := by
 apply Ev.rounds
 unfold vinculumlaw11_SelectionEnds.f
 refine ev_bind awake11_ev ?_
 refine ev_if (fun _ => ?_) fun h => absurd rfl h
 refine ev_bind (few11_ev x hx y.1 []) ?_
 refine ev_if (fun h => ?_) fun _ => Ev.now _
 rw [decide_eq_true_eq] at h
 obtain ⟨h1, h2, h3⟩ := h
 refine ev_bind (nItems_ev x hx (by omega) y.1 y.2.1 y.2.2) ?_
 refine ev_if (fun h0 => ?_) fun h0 => ?_
 ·
  obtain ⟨v1, v2, v3, v4, v5, v6, v7, v8⟩ := itB_part x y.1 y.2.1 y.2.2 h0
  rw [startE _ _ _ h2, endE _ _ _ h2]
  refine ev_bind (Ev.now _) ?_
  refine ev_bind (Ev.now _) ?_
  refine ev_bind (pBet_ev x hx (by omega) _ _ (by simp; omega) (by simp; omega)) ?_
  rw [v4]
  refine ev_if (fun _ => ?_) fun h => absurd rfl h
  refine ev_bind (same11_self (y.1, y.2.1, y.2.2, 0) (by simp [M]; omega)) ?_
  refine ev_if (fun _ => ?_) fun h => absurd rfl h
  refine ev_bind (rPValid_ev x hx (by omega) _) ?_
  refine ev_if (fun _ => ?_) fun h => absurd (by simp [v2]) h
  refine ev_bind (rPValid_ev x hx (by omega) _) ?_
  refine ev_if (fun _ => Ev.now _) fun h => absurd ⟨by simp [v3], ?_⟩ h
  rw [v5]
  unfold wrap64
  omega
 ·
  refine ev_if (fun _ => Ev.now _) fun h => absurd (by rw [itB_none x _ _ _ h0]; rfl) h
end Go.Proofs.YtagkhoeidjlahaaDoor.G.Pure
