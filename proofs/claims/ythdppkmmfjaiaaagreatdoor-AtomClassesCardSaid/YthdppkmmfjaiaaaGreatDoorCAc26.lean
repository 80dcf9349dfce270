-- Written by pack2.py, a program of this session: this session's texts and those that the kit's printer wrote for this claim, pruned to what the claims use.
import Derived.Test.YthdppkmmfjaiaaaGreatDoorCAc2
import Derived.Test.YthdppkmmfjaiaaaGreatDoorCAc23
import Derived.Test.YthdppkmmfjaiaaaGreatDoorCAc25
import Derived.Test.YthdppkmmfjaiaaaGreatDoorCAc18
import Derived.Test.YthdppkmmfjaiaaaGreatDoorCAc24
import Derived.Test.YthdppkmmfjaiaaaGreatDoorCAc22
import Derived.Test.YthdppkmmfjaiaaaGreatDoorCAc13
import Derived.Test.YthdppkmmfjaiaaaGreatDoorCAc20
namespace Go.Proofs.YthdppkmmfjaiaaaGreatDoor.G
open Go.RowKit Go.Proofs.YthdppkmmfjaiaaaGreatDoorW.PrintWords Go.Proofs.YthdppkmmfjaiaaaGreatDoorW.PrintLast Go.Proofs.YthdppkmmfjaiaaaGreatDoorW.PrintMore
attribute [local go_sem] max2_int min2_int max_two min_two max_three min_three max_four min_four
set_option linter.unusedVariables false
set_option linter.unusedSimpArgs false
def vinculumlaw26_awake.f (k : Nat) : Option Bool := (vinculumref08_Default.f k).bind fun D => (atom_Classes.f k D aw26).bind fun r => (vinculumref26_Same.f k r.1 [0, 2, 0, 3, 0]).bind fun b => if r.2 = 0 then some b else none
set_option maxHeartbeats 4000000 in
set_option maxRecDepth 100000 in

theorem vinculumlaw26_awake.calls (k : Nat)  (r : Bool) (w : World) (h : vinculumlaw26_awake.f k  = some r) :
    Calls Tryz.prog 5 #[] w fun e w' => e = .returned (.bool r) ∧ Below w.heap.size w w' := by
  unfold vinculumlaw26_awake.f at h
  obtain ⟨D, hD, h1⟩ := Option.bind_eq_some_iff.mp h
  obtain ⟨⟨q1, q2⟩, hq, h2⟩ := Option.bind_eq_some_iff.mp h1
  obtain ⟨b, hs, h3⟩ := Option.bind_eq_some_iff.mp h2
  clear h h1 h2
  simp only at h3 hs
  by_cases hz : q2 = 0
  case neg => rw [if_neg hz] at h3; cases h3
  rw [if_pos hz] at h3
  subst hz
  obtain rfl := Option.some.inj h3
  have HD := Aside0.mk hD
  have HQ := Aside0.mk hq
  have HS := Aside0.mk hs
  have HP : Aside0 (atom_Space.f [] [] 1000 0 0 0 0 0 0 0 0 0 0 0 0 0 0 70 50 90 0 0 0 1 2 false = some (117, 0)) := ⟨by decide +kernel⟩
  have hu := Tryz.underlying37
  have hu2 := Tryz.underlying35
  have hu3 := Tryz.underlying41
  clear hD hq hs h3
  go_enter Tryz.func5, Tryz.ntmps5
  go_wp2_with fail
  refine (vinculumref08_Default.calls k D _ HD.out).mono ?_
  rintro e w1 ⟨v1, rfl, hR, hb⟩
  obtain ⟨A1, c1, rfl⟩ := Kd.R_slice hR
  have CD := Aside0.mk (Kd.R_reads' hR).2
  have HB1 := Aside0.mk hb
  clear hR hb
  go_wp2_with fail
  refine (sym26_calls _ _).mono ?_
  rintro e w2 ⟨rfl, hb⟩
  have CD2 := Aside0.mk (Kd.C_below CD.out.2 hb)
  have HB2 := Aside0.mk (below_step HB1.out hb)
  clear hb
  go_wp2_with fail
  refine (sym26_calls _ _).mono ?_
  rintro e w3 ⟨rfl, hb⟩
  have CD3 := Aside0.mk (Kd.C_below CD2.out hb)
  have HB3 := Aside0.mk (below_step HB2.out hb)
  clear hb
  go_wp2_with fail
  refine (sym26_calls _ _).mono ?_
  rintro e w4 ⟨rfl, hb⟩
  have CD4 := Aside0.mk (Kd.C_below CD3.out hb)
  have HB4 := Aside0.mk (below_step HB3.out hb)
  clear hb
  go_wp2_with fail
  refine (sym26_calls _ _).mono ?_
  rintro e w5 ⟨rfl, hb⟩
  have CD5 := Aside0.mk (Kd.C_below CD4.out hb)
  have HB5 := Aside0.mk (below_step HB4.out hb)
  clear hb
  go_wp2_with fail
  refine (sym26_calls _ _).mono ?_
  rintro e w6 ⟨rfl, hb⟩
  have CD6 := Aside0.mk (Kd.C_below CD5.out hb)
  have HB6 := Aside0.mk (below_step HB5.out hb)
  clear hb
  go_wp2_with fail
  have e1 := blk_new w6 (.cells #[.int .i64 2, .string ⟨#[97]⟩, .int .i64 0, .slice none 0 0, .int .i64 2, .string ⟨#[43]⟩, .int .i64 0, .slice none 0 0, .int .i64 2, .string ⟨#[98]⟩, .int .i64 0, .slice none 0 0, .int .i64 2, .string ⟨#[61]⟩, .int .i64 0, .slice none 0 0, .int .i64 2, .string ⟨#[99]⟩, .int .i64 0, .slice none 0 0] 48)
  have C1 := C_blk (d := k48) (xs := aw26) (cs := [.int .i64 2, .string ⟨#[97]⟩, .int .i64 0, .slice none 0 0, .int .i64 2, .string ⟨#[43]⟩, .int .i64 0, .slice none 0 0, .int .i64 2, .string ⟨#[98]⟩, .int .i64 0, .slice none 0 0, .int .i64 2, .string ⟨#[61]⟩, .int .i64 0, .slice none 0 0, .int .i64 2, .string ⟨#[99]⟩, .int .i64 0, .slice none 0 0]) e1 (Reps.c4 (k_lf26 _ ⟨#[97]⟩) (Reps.c4 (k_lf26 _ ⟨#[43]⟩) (Reps.c4 (k_lf26 _ ⟨#[98]⟩) (Reps.c4 (k_lf26 _ ⟨#[61]⟩) (Reps.c4 (k_lf26 _ ⟨#[99]⟩) (Reps.none _ _)))))) (by decide)
  have HB7 := Aside0.mk (below_alloc HB6.out (.cells #[.int .i64 2, .string ⟨#[97]⟩, .int .i64 0, .slice none 0 0, .int .i64 2, .string ⟨#[43]⟩, .int .i64 0, .slice none 0 0, .int .i64 2, .string ⟨#[98]⟩, .int .i64 0, .slice none 0 0, .int .i64 2, .string ⟨#[61]⟩, .int .i64 0, .slice none 0 0, .int .i64 2, .string ⟨#[99]⟩, .int .i64 0, .slice none 0 0] 48))
  refine (atom_Classes.calls k _ _ D _ _ aw26 q1 0 _ (Kd.C_alloc CD6.out _) CD.out.1 C1 (Nat.le_refl _) HQ.out).mono ?_
  clear e1 C1
  rintro e w7 ⟨v7, rfl, hR, hb⟩
  obtain ⟨A7, c7, rfl⟩ := Kd.R_slice hR
  have CQ := Aside0.mk (Kd.R_reads' hR).2
  have HB8 := Aside0.mk (below_step HB7.out hb)
  clear hR hb
  go_wp2_with (first
    | ((with_reducible refine gate_store (t := 37) (p := 3) rfl ?_); refine wpList_store_row rfl 37 _ _ rfl w7.heap.size #[.slice none 0 0, .slice none 0 0, .int .i64 1000, .int .i64 0, .int .i64 0, .int .i64 0, .int .i64 0, .int .i64 0, .int .i64 0, .int .i64 0, .int .i64 0, .int .i64 0, .int .i64 0, .int .i64 0, .int .i64 0, .int .i64 0, .int .i64 0, .int .i64 70, .int .i64 50, .int .i64 90, .int .i64 0, .int .i64 0] rfl rfl 37 #[.slice none 0 0, .slice none 0 0, .int .i64 0, .int .i64 0, .int .i64 0, .int .i64 0, .int .i64 0, .int .i64 0, .int .i64 0, .int .i64 0, .int .i64 0, .int .i64 0, .int .i64 0, .int .i64 0, .int .i64 0, .int .i64 0, .int .i64 0, .int .i64 0, .int .i64 0, .int .i64 0, .int .i64 0, .int .i64 0] (blk_new w7 _) (by kernel_rfl) (by kernel_rfl) (by kernel_rfl) ?_; rw [World.setRow_alloc_new])
    | ((with_reducible refine gate_dst (N := 20) rfl ?_); refine wpList_load_seg rfl 37 _ rfl w7.heap.size 0 rfl 37 _ (0, 0) _ [.slice none 0 0, .slice none 0 0, .int .i64 1000, .int .i64 0, .int .i64 0, .int .i64 0, .int .i64 0, .int .i64 0, .int .i64 0, .int .i64 0, .int .i64 0, .int .i64 0, .int .i64 0, .int .i64 0, .int .i64 0, .int .i64 0, .int .i64 0, .int .i64 70, .int .i64 50, .int .i64 90, .int .i64 0, .int .i64 0] (blk_new w7 _) [] rfl hu rfl (by kernel_rfl) ?_)
    | fail)
  have HB9 := Aside0.mk (below_alloc HB8.out (.cells #[.slice none 0 0, .slice none 0 0, .int .i64 1000, .int .i64 0, .int .i64 0, .int .i64 0, .int .i64 0, .int .i64 0, .int .i64 0, .int .i64 0, .int .i64 0, .int .i64 0, .int .i64 0, .int .i64 0, .int .i64 0, .int .i64 0, .int .i64 0, .int .i64 70, .int .i64 50, .int .i64 90, .int .i64 0, .int .i64 0] 37))
  have CQ9 := Aside0.mk (Kd.C_alloc CQ.out.2 (.cells #[.slice none 0 0, .slice none 0 0, .int .i64 1000, .int .i64 0, .int .i64 0, .int .i64 0, .int .i64 0, .int .i64 0, .int .i64 0, .int .i64 0, .int .i64 0, .int .i64 0, .int .i64 0, .int .i64 0, .int .i64 0, .int .i64 0, .int .i64 0, .int .i64 70, .int .i64 50, .int .i64 90, .int .i64 0, .int .i64 0] 37))
  refine (atom_Space.calls none 0 [] none 0 [] 1000 0 0 0 0 0 0 0 0 0 0 0 0 0 0 70 50 90 0 0 0 1 2 false 117 0 _ (Kd.C_nil _ _) (Nat.le_refl _) (Kd.C_nil _ _) (Nat.le_refl _) HP.out).mono ?_
  rintro e w8 ⟨rfl, hb⟩
  have HB10 := Aside0.mk (below_step HB9.out hb)
  have CQ10 := Aside0.mk (Kd.C_below CQ9.out hb)
  clear hb
  go_wp2_with fail
  have e1 := blk_new w8 (.cells #[.int .i64 0, .int .i64 2, .int .i64 0, .int .i64 3, .int .i64 0] 3)
  have C1 := C_blk (d := Kd.int .i64) (xs := [0, 2, 0, 3, 0]) (cs := [.int .i64 0, .int .i64 2, .int .i64 0, .int .i64 3, .int .i64 0]) e1 (Reps.one rfl (Reps.one rfl (Reps.one rfl (Reps.one rfl (Reps.one rfl (Reps.none _ _)))))) (by decide)
  refine (vinculumref26_Same.calls k _ _ q1 _ _ [0, 2, 0, 3, 0] b _ (Kd.C_alloc CQ10.out _) CQ.out.1 C1 (Nat.le_refl _) HS.out).mono ?_
  clear e1 C1
  rintro e w9 ⟨rfl, hd⟩
  have HB11 := Aside0.mk (below_step (below_alloc HB10.out _) hd.below)
  clear hd
  go_wp2
  go_ret
  exact ⟨rfl, HB11.out⟩
end Go.Proofs.YthdppkmmfjaiaaaGreatDoor.G
namespace Go.Proofs.YthdppkmmfjaiaaaGreatDoor.G.Pure
open Go.Proofs.YthdppkmmfjaiaaaGreatDoorW.PrintWords Go.RowKit
set_option linter.unusedVariables false
set_option linter.unusedSimpArgs false
theorem same26_l (a b : List Int) (hl : a.length ≤ M) (he : a.length = b.length) : ∀ (m i : Nat), a.length - i = m → Ev (fun k => vinculumref26_Same.l0 k a b i) (decide (a.drop i = b.drop i)) := by
  intro m
  induction m with
  | zero =>
    intro i hi
    refine Ev.step (fun k => by rw [vinculumref26_Same.l0]) ?_
    refine ev_if (fun h => by omega) fun _ => ev_now ?_
    rw [List.drop_eq_nil_of_le (by omega), List.drop_eq_nil_of_le (by omega)]; rfl
  | succ m ih =>
    intro i hi
    unfold M at hl
    refine Ev.step (fun k => by rw [vinculumref26_Same.l0]) ?_
    refine ev_if (fun _ => ?_) fun h => by omega
    refine ev_if (fun _ => ?_) fun h => by omega
    refine ev_if (fun _ => ?_) fun h => by omega
    rw [rdI_at a i (by omega), rdI_at b i (by omega), List.drop_eq_getElem_cons (show i < a.length by omega), List.drop_eq_getElem_cons (show i < b.length by omega)]
    refine ev_if (fun h => ?_) fun h => ev_now ?_
    · rw [wr (n := (i : Int) + 1) (by omega)]
      have := ih (i + 1) (by omega)
      rw [decide_eq_decide.2 (show (a[i] :: a.drop (i + 1) = b[i]'(by omega) :: b.drop (i + 1)) ↔ (a.drop (i + 1) = b.drop (i + 1)) from ⟨fun e => (List.cons.inj e).2, fun e => by rw [h, e]⟩)]
      exact_mod_cast this
    · rw [decide_eq_false (fun e => h (List.cons.inj e).1)]
theorem same26_ev (a b : List Int) (hl : a.length ≤ M) : Ev (fun k => vinculumref26_Same.f k a b) (decide (a = b)) := by
  unfold vinculumref26_Same.f
  refine ev_if (fun h => ?_) fun h => ev_now ?_
  · have := same26_l a b hl (by omega) a.length 0 rfl
    simpa using this
  · rw [decide_eq_false (fun e => h (by rw [e]))]
def i26 : List S48 := aw26
theorem leaf26_ok (s : ByteArray) (hs : s.size ≤ 9223372036854775807) : OkNode ⟨2, s, 0, []⟩ := OkNode.mk _ (show OkI .i64 2 by unfold OkI; decide) (show OkS s from hs) (show OkI .i64 0 by unfold OkI; decide) (Nat.zero_le _) (fun y h => by cases h)
theorem i26_ok : OkL OkNode i26 := ⟨by decide, fun x h => by
  unfold i26 aw26 lf26 at h
  simp only [List.mem_cons, List.not_mem_nil, or_false] at h
  rcases h with rfl | rfl | rfl | rfl | rfl <;> exact leaf26_ok _ (by decide)⟩
theorem dflt26 : (vinculumref08_Default.f 20).map (fun D => decide (D.length ≤ 1000) && decide (clsB D i26 = ([0, 2, 0, 3, 0], 0))) = some true := by decide +kernel
theorem awake26_ev : Ev (fun k => vinculumlaw26_awake.f k) true := by
  obtain ⟨D, hD, hc⟩ := Option.map_eq_some_iff.1 dflt26
  rw [Bool.and_eq_true, decide_eq_true_eq, decide_eq_true_eq] at hc
  unfold vinculumlaw26_awake.f
  refine ev_bind (Ev.of (fun k => vinculumref08_Default.mono k) hD) ?_
  have h := pClasses_ev D i26 (by omega) i26_ok (by decide)
  rw [hc.2] at h
  refine ev_bind h ?_
  have := same26_ev [0, 2, 0, 3, 0] [0, 2, 0, 3, 0] (by decide)
  exact ev_bind this (ev_now rfl)
end Go.Proofs.YthdppkmmfjaiaaaGreatDoor.G.Pure
namespace Go.Proofs.YthdppkmmfjaiaaaGreatDoor.G
open Go.RowKit Go.Proofs.YthdppkmmfjaiaaaGreatDoorW.PrintWords Go.Proofs.YthdppkmmfjaiaaaGreatDoorW.PrintLast Go.Proofs.YthdppkmmfjaiaaaGreatDoorW.PrintMore
attribute [local go_sem] max2_int min2_int max_two min_two max_three min_three max_four min_four
set_option linter.unusedVariables false
set_option linter.unusedSimpArgs false
def vinculumref26_Few.f (k : Nat) (l0 : List (S48)) (a1 : Int) : Option (Bool) := (vinculumref09_ToRow.f l0).bind fun bt273 => ((vinculumref09_Few.f k bt273.1 bt273.2.1 bt273.2.2.1 bt273.2.2.2 a1).bind fun t279 => (some t279))
set_option maxHeartbeats 8000000 in
set_option maxRecDepth 100000 in
theorem vinculumref26_Few.calls (k : Nat) (A0 : Option Addr) (c0 : Nat) (l0 : List (S48)) (a1 : Int) (r : Bool) (w : World) (hr0 : Kd.C k48 w A0 l0.length l0) (hc0 : l0.length ≤ c0) (h : vinculumref26_Few.f k l0 a1 = some r) :
    Calls Tryz.prog 6 #[.slice A0 l0.length c0, .int .i64 a1] w fun e w' => e = .returned (.bool r) ∧ Below w.heap.size w w' := by
  have HR0 := Aside0.mk hr0
  have HC0 := Aside0.mk hc0
  clear hr0 hc0
  have HB := Aside0.mk (Below.refl w.heap.size w)
  have H : ((vinculumref09_ToRow.f l0).bind fun bt273 => ((vinculumref09_Few.f k bt273.1 bt273.2.1 bt273.2.2.1 bt273.2.2.2 a1).bind fun t279 => (some t279))) = some r := h
  clear h
  replace H := Option.bind_eq_some_iff.mp H
  obtain ⟨⟨t273, t274, t275, t276⟩, A30, H⟩ := H
  replace H : ((vinculumref09_Few.f k t273 t274 t275 t276 a1).bind fun t279 => (some t279)) = some r := H
  have A3 := Aside0.mk A30
  clear A30
  replace H := Option.bind_eq_some_iff.mp H
  obtain ⟨t279, A40, H⟩ := H
  replace H : (some t279) = some r := H
  have A4 := Aside0.mk A40
  clear A40
  obtain rfl := Option.some.inj H
  go_enter Tryz.func6, Tryz.ntmps6
  go_wp2_with (first | ((with_reducible refine gate_callee (f := 18) rfl ?_); refine goesL_ (some 6) rfl rfl Tryz.func18 (by kernel_rfl) rfl #[.slice A0 l0.length c0] rfl (by (try simp only [List.map_toArray, List.map_cons, List.map_nil]); first | done | rfl | (simp only [List.length_drop, List.length_take]; rfl)) ?_; (with_reducible refine (vinculumref09_ToRow.calls (fun k_ => k_ < w.heap.size) _ _ l0 t273 t274 t275 t276 _ ?side1 A3.out).mono ?_); (case side1 => exact Kd.V_mk HC0.out (Kd.F_below (Kd.C_F k48_heap HR0.out) (by repeat (first | (with_reducible first | exact HB.out | apply below_alloc | apply pw_below_drewN | apply below_drew1) | exact HB.out)))); rintro e w5 ⟨v277, rfl, ho0, hb⟩; refine ⟨_, rfl, ?_⟩; have n0_ := Aside0.mk (Kd.V_lower (Kd.V_mono (ok' := fun k_ => True) ho0 (fun k_ hk_ => trivial)) (below_size (by repeat (first | (with_reducible first | exact HB.out | apply below_alloc | apply pw_below_drewN | apply below_drew1) | exact HB.out)))); have n1_ := Aside0.mk (below_step (by repeat (first | (with_reducible first | exact HB.out | apply below_alloc | apply pw_below_drewN | apply below_drew1) | exact HB.out)) hb); clear HB; have HO278 := n0_; have HB := n1_; clear n0_ n1_; (try clear hb); (try clear hb2); (try clear hk); (try clear hi); (try clear ho0); obtain ⟨Ao6, co6, eo6⟩ := Kd.V_slice HO278.out; subst eo6) | ((with_reducible refine gate_callee (f := 17) rfl ?_); refine goesL_ (some 8) rfl rfl Tryz.func17 (by kernel_rfl) rfl #[.agg #[.int .i64 t273, .string t274, .int .i64 t275, .slice Ao6 t276.length co6], .int .i64 a1] rfl (by (try simp only [List.map_toArray, List.map_cons, List.map_nil]); first | done | rfl | (simp only [List.length_drop, List.length_take]; rfl)) ?_; (with_reducible refine (vinculumref09_Few.calls k t273 t274 t275 _ _ t276 a1 t279 _ ?side1 ?side2 A4.out).mono ?_); (case side1 => repeat (first | exact (Kd.V_reads' HO278.out).2.2 | (with_reducible refine Kd.C_alloc ?_ _) | (with_reducible refine Kd.C_drewN ?_ _) | (with_reducible refine Kd.C_drew ?_))); (case side2 => exact (Kd.V_reads' HO278.out).2.1); rintro e w7 ⟨rfl, hb⟩; refine ⟨_, rfl, ?_⟩; have n0_ := Aside0.mk (Kd.V_below (by (with_reducible repeat (first | apply Kd.V_alloc | apply Kd.V_drewN | apply Kd.V_drew)); exact HO278.out) hb); have n1_ := Aside0.mk (below_step (by repeat (first | (with_reducible first | exact HB.out | apply below_alloc | apply pw_below_drewN | apply below_drew1) | exact HB.out)) hb); clear HO278; clear HB; have HO278 := n0_; have HB := n1_; clear n0_ n1_; (try clear hb); (try clear hb2); (try clear hk); (try clear hi)))
  go_ret
  exact ⟨by first | rfl | (simp [errW_none, errW_some] <;> rfl) | (simp [*, errW_none, errW_some] <;> rfl), by repeat (first | (with_reducible first | exact HB.out | apply below_alloc | apply pw_below_drewN | apply below_drew1) | exact HB.out)⟩
end Go.Proofs.YthdppkmmfjaiaaaGreatDoor.G
namespace Go.Proofs.YthdppkmmfjaiaaaGreatDoor.G
open Go.RowKit Go.Proofs.YthdppkmmfjaiaaaGreatDoorW.PrintWords Go.Proofs.YthdppkmmfjaiaaaGreatDoorW.PrintLast Go.Proofs.YthdppkmmfjaiaaaGreatDoorW.PrintMore
attribute [local go_sem] max2_int min2_int max_two min_two max_three min_three max_four min_four
set_option linter.unusedVariables false
set_option linter.unusedSimpArgs false
def vinculumlaw26_AtomClasses.j0 : Nat → List (S75) → List (S48) → Bool → Option (Bool)
  | 0, _, _, _ => none
  | k + 1, x0, x1, x18 => if x18 = true then (some true) else ((atom_Classes.f k x0 x1).bind fun bt379 => ((vinculumref26_Classes.f k x0 x1).bind fun bt383 => (if bt379.2 = bt383.2 then ((vinculumref26_Same.f k bt379.1 bt383.1).bind fun t387 => (some t387)) else (some false))))
def vinculumlaw26_AtomClasses.f (k : Nat) (l0 : List (S75)) (l1 : List (S48)) : Option (Bool) := (vinculumlaw26_awake.f k).bind fun t377 => (if t377 = true then (if (l0.length : Int) > 300 then (vinculumlaw26_AtomClasses.j0 k l0 l1 true) else ((vinculumref26_Few.f k l1 300).bind fun t378 => (vinculumlaw26_AtomClasses.j0 k l0 l1 (!t378)))) else (some false))
set_option maxHeartbeats 8000000 in
set_option maxRecDepth 100000 in
theorem vinculumlaw26_AtomClasses.calls (k : Nat) (A0 : Option Addr) (c0 : Nat) (l0 : List (S75)) (A1 : Option Addr) (c1 : Nat) (l1 : List (S48)) (r : Bool) (w : World) (hr0 : Kd.C k75 w A0 l0.length l0) (hc0 : l0.length ≤ c0) (hr1 : Kd.C k48 w A1 l1.length l1) (hc1 : l1.length ≤ c1) (h : vinculumlaw26_AtomClasses.f k l0 l1 = some r) :
    Calls Tryz.prog 3 #[.slice A0 l0.length c0, .slice A1 l1.length c1] w fun e w' => e = .returned (.bool r) ∧ Below w.heap.size w w' := by
  have HR0 := Aside0.mk hr0
  have HC0 := Aside0.mk hc0
  clear hr0 hc0
  have HR1 := Aside0.mk hr1
  have HC1 := Aside0.mk hc1
  clear hr1 hc1
  have HB := Aside0.mk (Below.refl w.heap.size w)
  have H : ((vinculumlaw26_awake.f k).bind fun t377 => (if t377 = true then (if (l0.length : Int) > 300 then (vinculumlaw26_AtomClasses.j0 k l0 l1 true) else ((vinculumref26_Few.f k l1 300).bind fun t378 => (vinculumlaw26_AtomClasses.j0 k l0 l1 (!t378)))) else (some false))) = some r := h
  clear h
  replace H := Option.bind_eq_some_iff.mp H
  obtain ⟨t377, A30, H⟩ := H
  replace H : (if t377 = true then (if (l0.length : Int) > 300 then (vinculumlaw26_AtomClasses.j0 k l0 l1 true) else ((vinculumref26_Few.f k l1 300).bind fun t378 => (vinculumlaw26_AtomClasses.j0 k l0 l1 (!t378)))) else (some false)) = some r := H
  have A3 := Aside0.mk A30
  clear A30
  by_cases c4 : t377 = true
  · subst c4
    have H1 : (if (l0.length : Int) > 300 then (vinculumlaw26_AtomClasses.j0 k l0 l1 true) else ((vinculumref26_Few.f k l1 300).bind fun t378 => (vinculumlaw26_AtomClasses.j0 k l0 l1 (!t378)))) = some r := by rw [if_pos rfl] at H; exact H
    clear H
    have H := H1
    clear H1
    have HC5 := Aside0.mk H
    clear H
    go_enter Tryz.func3, Tryz.ntmps3
    go_upto_region 3 with (first | ((with_reducible refine gate_callee (f := 5) rfl ?_); refine goesL_ (some 9) rfl rfl Tryz.func5 (by kernel_rfl) rfl #[] rfl (by (try simp only [List.map_toArray, List.map_cons, List.map_nil]); first | done | rfl | (simp only [List.length_drop, List.length_take]; rfl)) ?_; (with_reducible refine (vinculumlaw26_awake.calls k  true _ A3.out).mono ?_); rintro e w6 ⟨rfl, hb⟩; refine ⟨_, rfl, ?_⟩; have n0_ := Aside0.mk (below_step (by repeat (first | (with_reducible first | exact HB.out | apply below_alloc | apply pw_below_drewN | apply below_drew1) | exact HB.out)) hb); clear HB; have HB := n0_; clear n0_; (try clear hb); (try clear hb2); (try clear hk); (try clear hi)))
    (try simp only [Act.put, List.setIfInBounds_toArray, List.set_cons_zero, List.set_cons_succ])
    go_cut [18] (fun v18 wc => ∃ (kq : Nat) (x18_4 : Bool), v18 = .bool x18_4 ∧ Aside0 (vinculumlaw26_AtomClasses.j0 kq l0 l1 x18_4 = some r) ∧ Aside0 (kq ≤ k) ∧ Aside0 (Below w.heap.size w wc))
    case first =>
      have H := HC5.out
      clear HC5
      by_cases c7 : (l0.length : Int) > 300
      · rw [if_pos c7] at H
        have c7b0 : decide (300 < (l0.length : Int)) = true := decide_eq_true c7
        have c7b1 : decide (300 < l0.length) = true := decide_eq_true (by omega)
        clear c7
        (first | rw [c7b0] | (simp only [i64_w, i32_w]; rw [c7b0]) | skip)
        have H' := Aside0.mk H
        clear H
        go_wp2
        go_meet
        case rel => exact ⟨_, (true), (by first | rfl | (simp; done) | (simp [*]; done)), H', ⟨by first | omega | exact Nat.le_refl _⟩, ⟨by repeat (first | (with_reducible first | exact HB.out | apply below_alloc | apply pw_below_drewN | apply below_drew1) | exact HB.out)⟩⟩
      · rw [if_neg c7] at H
        have c7b0 : decide (300 < (l0.length : Int)) = false := decide_eq_false c7
        have c7b1 : decide (300 < l0.length) = false := decide_eq_false (by omega)
        clear c7
        (first | rw [c7b0] | (simp only [i64_w, i32_w]; rw [c7b0]) | skip)
        replace H := Option.bind_eq_some_iff.mp H
        obtain ⟨t378, A80, H⟩ := H
        replace H : (vinculumlaw26_AtomClasses.j0 k l0 l1 (!t378)) = some r := H
        have A8 := Aside0.mk A80
        clear A80
        have H' := Aside0.mk H
        clear H
        go_wp2_with (first | (go_at_call 6; (with_reducible refine (vinculumref26_Few.calls k _ _ l1 300 t378 _ ?side1 ?side2 A8.out).mono ?_); (case side1 => repeat (first | exact (Kd.C_below HR1.out HB.out) | (with_reducible refine Kd.C_alloc ?_ _) | (with_reducible refine Kd.C_drewN ?_ _) | (with_reducible refine Kd.C_drew ?_))); (case side2 => exact HC1.out); rintro e w9 ⟨rfl, hb⟩; have n0_ := Aside0.mk (below_step (by repeat (first | (with_reducible first | exact HB.out | apply below_alloc | apply pw_below_drewN | apply below_drew1) | exact HB.out)) hb); clear HB; have HB := n0_; clear n0_; (try clear hb); (try clear hb2); (try clear hk); (try clear hi)))
        go_meet
        case rel => exact ⟨_, (!t378), (by first | rfl | (simp; done) | (simp [*]; done)), H', ⟨by first | omega | exact Nat.le_refl _⟩, ⟨by repeat (first | (with_reducible first | exact HB.out | apply below_alloc | apply pw_below_drewN | apply below_drew1) | exact HB.out)⟩⟩
    case rest =>
      clear HC5
      try clear c1
      try clear p2
      try clear c3
      try clear c4
      try clear c5
      try clear c7
      try clear c7b0
      try clear c7b1
      obtain ⟨kq, x18_4, rfl, HA, HJ4, HB⟩ := hcut
      cases kq with
      | zero => exact absurd HA.out (by simp [vinculumlaw26_AtomClasses.j0])
      | succ kj4 =>
        have H := HA.out
        clear HA
        simp only [vinculumlaw26_AtomClasses.j0] at H
        by_cases c10 : x18_4 = true
        · subst c10
          have H1 : (some true) = some r := by rw [if_pos rfl] at H; exact H
          clear H
          have H := H1
          clear H1
          obtain rfl := Option.some.inj H
          go_wp2
          go_ret
          exact ⟨by first | rfl | (simp [errW_none, errW_some] <;> rfl) | (simp [*, errW_none, errW_some] <;> rfl), by repeat (first | (with_reducible first | exact HB.out | apply below_alloc | apply pw_below_drewN | apply below_drew1) | exact HB.out)⟩
        · replace c10 := Bool.eq_false_iff.mpr c10
          subst c10
          have H1 : ((atom_Classes.f kj4 l0 l1).bind fun bt379 => ((vinculumref26_Classes.f kj4 l0 l1).bind fun bt383 => (if bt379.2 = bt383.2 then ((vinculumref26_Same.f kj4 bt379.1 bt383.1).bind fun t387 => (some t387)) else (some false)))) = some r := by rw [if_neg (show ¬ (false = true) by decide)] at H; exact H
          clear H
          have H := H1
          clear H1
          replace H := Option.bind_eq_some_iff.mp H
          obtain ⟨⟨t379, t380⟩, A110, H⟩ := H
          replace H : ((vinculumref26_Classes.f kj4 l0 l1).bind fun bt383 => (if t380 = bt383.2 then ((vinculumref26_Same.f kj4 t379 bt383.1).bind fun t387 => (some t387)) else (some false))) = some r := H
          have A11 := Aside0.mk A110
          clear A110
          replace H := Option.bind_eq_some_iff.mp H
          obtain ⟨⟨t383, t384⟩, A120, H⟩ := H
          replace H : (if t380 = t384 then ((vinculumref26_Same.f kj4 t379 t383).bind fun t387 => (some t387)) else (some false)) = some r := H
          have A12 := Aside0.mk A120
          clear A120
          by_cases c13 : t380 = t384
          · rw [if_pos c13] at H
            have c13b0 : (t380 == t384) = true := beq_iff_eq.mpr c13
            have c13b1 : (t380 != t384) = false := bne_eq_false_iff_eq.mpr c13
            clear c13
            replace H := Option.bind_eq_some_iff.mp H
            obtain ⟨t387, A140, H⟩ := H
            replace H : (some t387) = some r := H
            have A14 := Aside0.mk A140
            clear A140
            obtain rfl := Option.some.inj H
            go_wp2_with (first | ((with_reducible refine gate_callee (f := 7) rfl ?_); refine goesL_ (some 22) rfl rfl Tryz.func7 (by kernel_rfl) rfl #[.slice A0 l0.length c0, .slice A1 l1.length c1] rfl (by (try simp only [List.map_toArray, List.map_cons, List.map_nil]); first | done | rfl | (simp only [List.length_drop, List.length_take]; rfl)) ?_; (with_reducible refine (atom_Classes.calls kj4 _ _ l0 _ _ l1 t379 t380 _ ?side1 ?side2 ?side3 ?side4 A11.out).mono ?_); (case side1 => repeat (first | exact (Kd.C_below HR0.out HB.out) | (with_reducible refine Kd.C_alloc ?_ _) | (with_reducible refine Kd.C_drewN ?_ _) | (with_reducible refine Kd.C_drew ?_))); (case side2 => exact HC0.out); (case side3 => repeat (first | exact (Kd.C_below HR1.out HB.out) | (with_reducible refine Kd.C_alloc ?_ _) | (with_reducible refine Kd.C_drewN ?_ _) | (with_reducible refine Kd.C_drew ?_))); (case side4 => exact HC1.out); rintro e w15 ⟨v381, rfl, ho0, hb⟩; refine ⟨_, rfl, ?_⟩; have n0_ := Aside0.mk (Kd.R_lower ho0 (below_size (by repeat (first | (with_reducible first | exact HB.out | apply below_alloc | apply pw_below_drewN | apply below_drew1) | exact HB.out)))); have n1_ := Aside0.mk (below_step (by repeat (first | (with_reducible first | exact HB.out | apply below_alloc | apply pw_below_drewN | apply below_drew1) | exact HB.out)) hb); clear HB; have HO382 := n0_; have HB := n1_; clear n0_ n1_; (try clear hb); (try clear hb2); (try clear hk); (try clear hi); (try clear ho0)) | ((with_reducible refine gate_callee (f := 8) rfl ?_); refine goesL_ (some 28) rfl rfl Tryz.func8 (by kernel_rfl) rfl #[.slice A0 l0.length c0, .slice A1 l1.length c1] rfl (by (try simp only [List.map_toArray, List.map_cons, List.map_nil]); first | done | rfl | (simp only [List.length_drop, List.length_take]; rfl)) ?_; (with_reducible refine (vinculumref26_Classes.calls kj4 _ _ l0 _ _ l1 t383 t384 _ ?side1 ?side2 ?side3 ?side4 A12.out).mono ?_); (case side1 => repeat (first | exact (Kd.C_below HR0.out HB.out) | (with_reducible refine Kd.C_alloc ?_ _) | (with_reducible refine Kd.C_drewN ?_ _) | (with_reducible refine Kd.C_drew ?_))); (case side2 => exact HC0.out); (case side3 => repeat (first | exact (Kd.C_below HR1.out HB.out) | (with_reducible refine Kd.C_alloc ?_ _) | (with_reducible refine Kd.C_drewN ?_ _) | (with_reducible refine Kd.C_drew ?_))); (case side4 => exact HC1.out); rintro e w16 ⟨v385, rfl, ho0, hb⟩; refine ⟨_, rfl, ?_⟩; have n0_ := Aside0.mk (Kd.R_elder' (by (with_reducible repeat (first | apply Kd.R_alloc | apply Kd.R_drewN | apply Kd.R_drew)); exact HO382.out) (Kd.R_base ho0) hb); have n1_ := Aside0.mk (Kd.R_lower (Kd.R_new' ho0 (Kd.R_lt (by (with_reducible repeat (first | apply Kd.R_alloc | apply Kd.R_drewN | apply Kd.R_drew)); exact HO382.out))) (below_size (by repeat (first | (with_reducible first | exact HB.out | apply below_alloc | apply pw_below_drewN | apply below_drew1) | exact HB.out)))); have n2_ := Aside0.mk (below_step (by repeat (first | (with_reducible first | exact HB.out | apply below_alloc | apply pw_below_drewN | apply below_drew1) | exact HB.out)) hb); clear HO382; clear HB; have HO382 := n0_; have HO386 := n1_; have HB := n2_; clear n0_ n1_ n2_; (try clear hb); (try clear hb2); (try clear hk); (try clear hi); (try clear ho0); obtain ⟨Ao17, co17, eo17⟩ := Kd.R_slice HO382.out; subst eo17; obtain ⟨Ao18, co18, eo18⟩ := Kd.R_slice HO386.out; subst eo18) | (go_at_call 9; (with_reducible refine (vinculumref26_Same.calls kj4 _ _ t379 _ _ t383 t387 _ ?side1 ?side2 ?side3 ?side4 A14.out).mono ?_); (case side1 => repeat (first | exact (Kd.R_reads' HO382.out).2.2 | (with_reducible refine Kd.C_alloc ?_ _) | (with_reducible refine Kd.C_drewN ?_ _) | (with_reducible refine Kd.C_drew ?_))); (case side2 => exact (Kd.R_reads' HO382.out).2.1); (case side3 => repeat (first | exact (Kd.R_reads' HO386.out).2.2 | (with_reducible refine Kd.C_alloc ?_ _) | (with_reducible refine Kd.C_drewN ?_ _) | (with_reducible refine Kd.C_drew ?_))); (case side4 => exact (Kd.R_reads' HO386.out).2.1); rintro e w' ⟨rfl, ⟨nd, rfl⟩⟩))
            go_ret
            exact ⟨by first | rfl | (simp [errW_none, errW_some] <;> rfl) | (simp [*, errW_none, errW_some] <;> rfl), by repeat (first | (with_reducible first | exact HB.out | apply below_alloc | apply pw_below_drewN | apply below_drew1) | exact HB.out)⟩
          · rw [if_neg c13] at H
            have c13b0 : (t380 == t384) = false := beq_eq_false_iff_ne.mpr c13
            have c13b1 : (t380 != t384) = true := bne_iff_ne.mpr c13
            obtain rfl := Option.some.inj H
            go_wp2_with (first | ((with_reducible refine gate_callee (f := 7) rfl ?_); refine goesL_ (some 22) rfl rfl Tryz.func7 (by kernel_rfl) rfl #[.slice A0 l0.length c0, .slice A1 l1.length c1] rfl (by (try simp only [List.map_toArray, List.map_cons, List.map_nil]); first | done | rfl | (simp only [List.length_drop, List.length_take]; rfl)) ?_; (with_reducible refine (atom_Classes.calls kj4 _ _ l0 _ _ l1 t379 t380 _ ?side1 ?side2 ?side3 ?side4 A11.out).mono ?_); (case side1 => repeat (first | exact (Kd.C_below HR0.out HB.out) | (with_reducible refine Kd.C_alloc ?_ _) | (with_reducible refine Kd.C_drewN ?_ _) | (with_reducible refine Kd.C_drew ?_))); (case side2 => exact HC0.out); (case side3 => repeat (first | exact (Kd.C_below HR1.out HB.out) | (with_reducible refine Kd.C_alloc ?_ _) | (with_reducible refine Kd.C_drewN ?_ _) | (with_reducible refine Kd.C_drew ?_))); (case side4 => exact HC1.out); rintro e w19 ⟨v381, rfl, ho0, hb⟩; refine ⟨_, rfl, ?_⟩; have n0_ := Aside0.mk (Kd.R_lower ho0 (below_size (by repeat (first | (with_reducible first | exact HB.out | apply below_alloc | apply pw_below_drewN | apply below_drew1) | exact HB.out)))); have n1_ := Aside0.mk (below_step (by repeat (first | (with_reducible first | exact HB.out | apply below_alloc | apply pw_below_drewN | apply below_drew1) | exact HB.out)) hb); clear HB; have HO382 := n0_; have HB := n1_; clear n0_ n1_; (try clear hb); (try clear hb2); (try clear hk); (try clear hi); (try clear ho0)) | ((with_reducible refine gate_callee (f := 8) rfl ?_); refine goesL_ (some 28) rfl rfl Tryz.func8 (by kernel_rfl) rfl #[.slice A0 l0.length c0, .slice A1 l1.length c1] rfl (by (try simp only [List.map_toArray, List.map_cons, List.map_nil]); first | done | rfl | (simp only [List.length_drop, List.length_take]; rfl)) ?_; (with_reducible refine (vinculumref26_Classes.calls kj4 _ _ l0 _ _ l1 t383 t384 _ ?side1 ?side2 ?side3 ?side4 A12.out).mono ?_); (case side1 => repeat (first | exact (Kd.C_below HR0.out HB.out) | (with_reducible refine Kd.C_alloc ?_ _) | (with_reducible refine Kd.C_drewN ?_ _) | (with_reducible refine Kd.C_drew ?_))); (case side2 => exact HC0.out); (case side3 => repeat (first | exact (Kd.C_below HR1.out HB.out) | (with_reducible refine Kd.C_alloc ?_ _) | (with_reducible refine Kd.C_drewN ?_ _) | (with_reducible refine Kd.C_drew ?_))); (case side4 => exact HC1.out); rintro e w20 ⟨v385, rfl, ho0, hb⟩; refine ⟨_, rfl, ?_⟩; have n0_ := Aside0.mk (Kd.R_elder' (by (with_reducible repeat (first | apply Kd.R_alloc | apply Kd.R_drewN | apply Kd.R_drew)); exact HO382.out) (Kd.R_base ho0) hb); have n1_ := Aside0.mk (Kd.R_lower (Kd.R_new' ho0 (Kd.R_lt (by (with_reducible repeat (first | apply Kd.R_alloc | apply Kd.R_drewN | apply Kd.R_drew)); exact HO382.out))) (below_size (by repeat (first | (with_reducible first | exact HB.out | apply below_alloc | apply pw_below_drewN | apply below_drew1) | exact HB.out)))); have n2_ := Aside0.mk (below_step (by repeat (first | (with_reducible first | exact HB.out | apply below_alloc | apply pw_below_drewN | apply below_drew1) | exact HB.out)) hb); clear HO382; clear HB; have HO382 := n0_; have HO386 := n1_; have HB := n2_; clear n0_ n1_ n2_; (try clear hb); (try clear hb2); (try clear hk); (try clear hi); (try clear ho0)))
            go_ret
            exact ⟨by first | rfl | (simp [errW_none, errW_some] <;> rfl) | (simp [*, errW_none, errW_some] <;> rfl), by repeat (first | (with_reducible first | exact HB.out | apply below_alloc | apply pw_below_drewN | apply below_drew1) | exact HB.out)⟩
  · replace c4 := Bool.eq_false_iff.mpr c4
    subst c4
    have H1 : (some false) = some r := by rw [if_neg (show ¬ (false = true) by decide)] at H; exact H
    clear H
    have H := H1
    clear H1
    obtain rfl := Option.some.inj H
    go_enter Tryz.func3, Tryz.ntmps3
    go_wp2_with (first | ((with_reducible refine gate_callee (f := 5) rfl ?_); refine goesL_ (some 9) rfl rfl Tryz.func5 (by kernel_rfl) rfl #[] rfl (by (try simp only [List.map_toArray, List.map_cons, List.map_nil]); first | done | rfl | (simp only [List.length_drop, List.length_take]; rfl)) ?_; (with_reducible refine (vinculumlaw26_awake.calls k  false _ A3.out).mono ?_); rintro e w21 ⟨rfl, hb⟩; refine ⟨_, rfl, ?_⟩; have n0_ := Aside0.mk (below_step (by repeat (first | (with_reducible first | exact HB.out | apply below_alloc | apply pw_below_drewN | apply below_drew1) | exact HB.out)) hb); clear HB; have HB := n0_; clear n0_; (try clear hb); (try clear hb2); (try clear hk); (try clear hi)))
    go_ret
    exact ⟨by first | rfl | (simp [errW_none, errW_some] <;> rfl) | (simp [*, errW_none, errW_some] <;> rfl), by repeat (first | (with_reducible first | exact HB.out | apply below_alloc | apply pw_below_drewN | apply below_drew1) | exact HB.out)⟩
end Go.Proofs.YthdppkmmfjaiaaaGreatDoor.G
namespace Go.Proofs.YthdppkmmfjaiaaaGreatDoor.G.Pure
open Go.Proofs.YthdppkmmfjaiaaaGreatDoorW.PrintWords Go.RowKit
set_option linter.unusedVariables false
set_option linter.unusedSimpArgs false
theorem AtomClasses (d : List S75) (items : List S48) (ho : OkL OkEntry d) (h : OkL OkNode items) : ∃ k, vinculumlaw26_AtomClasses.f k d items = some true := by
  apply Ev.rounds
  unfold vinculumlaw26_AtomClasses.f
  have jt : Ev (fun k => vinculumlaw26_AtomClasses.j0 k d items true) true := Ev.step (fun k => by rw [vinculumlaw26_AtomClasses.j0]) (ev_if (fun _ => Ev.now _) fun h => absurd rfl h)
  refine ev_bind awake26_ev ?_
  refine ev_if (fun _ => ?_) fun h => absurd rfl h
  refine ev_if (fun _ => jt) fun hd => ?_
  have fw : Ev (fun k => vinculumref26_Few.f k items 300) (decide ((cnt (rowN items) : Int) ≤ 300)) := by
    unfold vinculumref26_Few.f vinculumref09_ToRow.f
    simp only [Option.bind_some]
    exact ev_bind (few_ev (rowN items) (rowN_ok h) 300 (by omega) (by omega)) (Ev.now _)
  refine ev_bind fw ?_
  by_cases hc : (cnt (rowN items) : Int) ≤ 300
  · rw [decide_eq_true hc]
    refine Ev.step (fun k => by rw [vinculumlaw26_AtomClasses.j0]) ?_
    refine ev_if (fun h => by cases h) fun _ => ?_
    have hi := len_cnt items
    refine ev_bind (pClasses_ev d items (by omega) h (by omega)) ?_
    refine ev_bind (rClasses_ev d items (by omega) ho.2 h (by omega)) ?_
    refine ev_if (fun _ => ?_) fun h => absurd rfl h
    have hl : (clsB d items).1.length ≤ M := by
      by_cases h0 : (clsB d items).2 = 0
      · rw [clsB_len d items h0]; simp only [M]; omega
      · unfold clsB at h0 ⊢
        split at h0
        · exact absurd rfl h0
        · rename_i hx; rw [if_neg hx]; simp [M]
    exact ev_bind (same26_ev _ _ hl) (ev_now (by simp))
  · rw [decide_eq_false hc]; exact jt
end Go.Proofs.YthdppkmmfjaiaaaGreatDoor.G.Pure
