-- Written by pack2.py, a program of this session: this session's texts and those that the kit's printer wrote for this claim, pruned to what the claims use.
import Derived.Test.YthdppkmmfjaiaaaDoorCAt2
import Derived.Test.YthdppkmmfjaiaaaDoorCAt13
import Derived.Test.YthdppkmmfjaiaaaDoorCAt11
import Derived.Test.YthdppkmmfjaiaaaDoorCAt15
import Derived.Test.YthdppkmmfjaiaaaDoorCAt12
import Derived.ChangeArms
import Derived.DataReads
import Derived.OpenShut
import Derived.Test.YthdppkmmfjaiaaaDoorCAt7
namespace Go.Proofs.YthdppkmmfjaiaaaDoor.G
open Go.RowKit Go.Proofs.YthdppkmmfjaiaaaDoorW.PrintWords Go.Proofs.YthdppkmmfjaiaaaDoorW.PrintLast Go.Proofs.YthdppkmmfjaiaaaDoorW.PrintMore
attribute [local go_sem] max2_int min2_int max_two min_two max_three min_three max_four min_four
set_option linter.unusedVariables false
set_option linter.unusedSimpArgs false
def vinculumref26_Same.l0 : Nat → List Int → List Int → Int → Option (Bool)
  | 0, _, _, _ => none
  | k + 1, x0, x1, x5 => if x5 < (x0.length : Int) then (if 0 ≤ x5 then (if x5 < (x1.length : Int) then (if (rd x0 x5) = (rd x1 x5) then (vinculumref26_Same.l0 k x0 x1 (wrap64 (x5 + 1))) else (some false)) else (none)) else (none)) else (some true)
def vinculumref26_Same.f (k : Nat) (l0 : List Int) (l1 : List Int) : Option (Bool) := if (l0.length : Int) = (l1.length : Int) then (vinculumref26_Same.l0 k l0 l1 0) else (some false)
set_option maxHeartbeats 8000000 in
set_option maxRecDepth 100000 in
theorem vinculumref26_Same.calls (k : Nat) (A0 : Option Addr) (c0 : Nat) (l0 : List Int) (A1 : Option Addr) (c1 : Nat) (l1 : List Int) (r : Bool) (w : World) (hr0 : Kd.C (Kd.int .i64) w A0 l0.length l0) (hc0 : l0.length ≤ c0) (hr1 : Kd.C (Kd.int .i64) w A1 l1.length l1) (hc1 : l1.length ≤ c1) (h : vinculumref26_Same.f k l0 l1 = some r) :
    Calls Tryd.prog 21 #[.slice A0 l0.length c0, .slice A1 l1.length c1] w fun e w' => e = .returned (.bool r) ∧ Drawn0 w w' := by
  have HR0 := Aside0.mk hr0
  have HC0 := Aside0.mk hc0
  clear hr0 hc0
  have HR1 := Aside0.mk hr1
  have HC1 := Aside0.mk hc1
  clear hr1 hc1
  have H : (if (l0.length : Int) = (l1.length : Int) then (vinculumref26_Same.l0 k l0 l1 0) else (some false)) = some r := h
  clear h
  by_cases c3 : (l0.length : Int) = (l1.length : Int)
  · rw [if_pos c3] at H
    have c3b0 : ((l0.length : Int) == (l1.length : Int)) = true := beq_iff_eq.mpr c3
    have c3b1 : ((l0.length : Int) != (l1.length : Int)) = false := bne_eq_false_iff_eq.mpr c3
    have c3b2 : (l0.length == l1.length) = true := by first | simpa using c3 | (simp at c3 ⊢; omega)
    clear c3
    have H' := Aside0.mk H
    clear H
    go_enter Tryd.func21, Tryd.ntmps21
    go_wp2
    repeat (go_quiet (fail); try go_wp2)
    go_loopg [5] k (fun kq v5 w' => ∃ (x5_1 : Int), v5 = .int .i64 x5_1 ∧ Aside0 (vinculumref26_Same.l0 kq l0 l1 x5_1 = some r) ∧ Aside0 (kq ≤ k) ∧ Drawn0 w w')
    case atStart => exact ⟨(0), (by first | rfl | (simp; done) | (simp [*]; done)), H', ⟨Nat.le_refl _⟩, by repeat (first | exact Drawn0.refl _ | apply Drawn0.step)⟩
    case round =>
      clear H'
      try clear c1
      try clear c2
      try clear p2
      try clear c3
      try clear c3b0
      try clear c3b1
      try clear c3b2
      obtain ⟨x5_1, rfl, HA, HK1, ⟨m1, rfl⟩⟩ := hrel
      cases gk with
      | zero => exact absurd HA.out (by simp [vinculumref26_Same.l0])
      | succ k1 =>
        have H := HA.out
        clear HA
        simp only [vinculumref26_Same.l0] at H
        by_cases c4 : x5_1 < (l0.length : Int)
        · rw [if_pos c4] at H
          have c4b0 : decide (x5_1 < (l0.length : Int)) = true := decide_eq_true c4
          clear c4
          by_cases c5 : 0 ≤ x5_1
          · rw [if_pos c5] at H
            have c5b0 : decide (0 ≤ x5_1) = true := decide_eq_true c5
            clear c5
            by_cases c6 : x5_1 < (l1.length : Int)
            · rw [if_pos c6] at H
              have c6b0 : decide (x5_1 < (l1.length : Int)) = true := decide_eq_true c6
              clear c6
              by_cases c7 : (rd l0 x5_1) = (rd l1 x5_1)
              · rw [if_pos c7] at H
                have c7b0 : ((rd l0 x5_1) == (rd l1 x5_1)) = true := beq_iff_eq.mpr c7
                have c7b1 : ((rd l0 x5_1) != (rd l1 x5_1)) = false := bne_eq_false_iff_eq.mpr c7
                clear c7
                have H' := Aside0.mk H
                clear H
                have p265 : 0 ≤ (x5_1 : Int) := of_decide_eq_true (by first | (with_reducible assumption) | assumption)
                have q265 : x5_1 < (l0.length : Int) := of_decide_eq_true (by first | (with_reducible assumption) | assumption)
                obtain ⟨ad265, e265, hx265_0⟩ := Kd.at_int HR0.out x5_1 p265 q265
                cases e265
                replace p265 := eq_true p265
                replace q265 := eq_true q265
                have p266 : 0 ≤ (x5_1 : Int) := of_decide_eq_true (by first | (with_reducible assumption) | assumption)
                have q266 : x5_1 < (l1.length : Int) := of_decide_eq_true (by first | (with_reducible assumption) | assumption)
                obtain ⟨ad266, e266, hx266_0⟩ := Kd.at_int HR1.out x5_1 p266 q266
                cases e266
                replace p266 := eq_true p266
                replace q266 := eq_true q266
                go_wp2
                repeat (go_quiet (fail); try go_wp2)
                go_roundg k1
                case measure => have := HK1.out; omega
                case rel => exact ⟨(wrap64 (x5_1 + 1)), (by first | rfl | (simp; done) | (simp [*]; done)), H', ⟨by have := HK1.out; omega⟩, by repeat (first | exact Drawn0.refl _ | apply Drawn0.step)⟩
              · rw [if_neg c7] at H
                have c7b0 : ((rd l0 x5_1) == (rd l1 x5_1)) = false := beq_eq_false_iff_ne.mpr c7
                have c7b1 : ((rd l0 x5_1) != (rd l1 x5_1)) = true := bne_iff_ne.mpr c7
                obtain rfl := Option.some.inj H
                have p265 : 0 ≤ (x5_1 : Int) := of_decide_eq_true (by first | (with_reducible assumption) | assumption)
                have q265 : x5_1 < (l0.length : Int) := of_decide_eq_true (by first | (with_reducible assumption) | assumption)
                obtain ⟨ad265, e265, hx265_0⟩ := Kd.at_int HR0.out x5_1 p265 q265
                cases e265
                replace p265 := eq_true p265
                replace q265 := eq_true q265
                have p266 : 0 ≤ (x5_1 : Int) := of_decide_eq_true (by first | (with_reducible assumption) | assumption)
                have q266 : x5_1 < (l1.length : Int) := of_decide_eq_true (by first | (with_reducible assumption) | assumption)
                obtain ⟨ad266, e266, hx266_0⟩ := Kd.at_int HR1.out x5_1 p266 q266
                cases e266
                replace p266 := eq_true p266
                replace q266 := eq_true q266
                go_wp2
                repeat (go_quiet (fail); try go_wp2)
                go_ret
                exact ⟨by first | rfl | (simp; done) | (simp [*]; done), by repeat (first | exact Drawn0.refl _ | apply Drawn0.step)⟩
            · rw [if_neg c6] at H
              exact absurd H (by simp)
          · rw [if_neg c5] at H
            exact absurd H (by simp)
        · rw [if_neg c4] at H
          have c4b0 : decide (x5_1 < (l0.length : Int)) = false := decide_eq_false c4
          clear c4
          obtain rfl := Option.some.inj H
          go_wp2
          repeat (go_quiet (fail); try go_wp2)
          go_ret
          exact ⟨by first | rfl | (simp; done) | (simp [*]; done), by repeat (first | exact Drawn0.refl _ | apply Drawn0.step)⟩
  · rw [if_neg c3] at H
    have c3b0 : ((l0.length : Int) == (l1.length : Int)) = false := beq_eq_false_iff_ne.mpr c3
    have c3b1 : ((l0.length : Int) != (l1.length : Int)) = true := bne_iff_ne.mpr c3
    have c3b2 : (l0.length == l1.length) = false := by first | simpa using c3 | (simp at c3 ⊢; omega)
    obtain rfl := Option.some.inj H
    go_enter Tryd.func21, Tryd.ntmps21
    go_wp2
    repeat (go_quiet (fail); try go_wp2)
    go_ret
    exact ⟨by first | rfl | (simp; done) | (simp [*]; done), by repeat (first | exact Drawn0.refl _ | apply Drawn0.step)⟩
end Go.Proofs.YthdppkmmfjaiaaaDoor.G
namespace Go.Proofs.YthdppkmmfjaiaaaDoor.G
open Go.RowKit Go.Proofs.YthdppkmmfjaiaaaDoorW.PrintWords Go.Proofs.YthdppkmmfjaiaaaDoorW.PrintLast Go.Proofs.YthdppkmmfjaiaaaDoorW.PrintMore
attribute [local go_sem] max2_int min2_int max_two min_two max_three min_three max_four min_four
set_option linter.unusedVariables false
set_option linter.unusedSimpArgs false
section aws
def lf26 (s : ByteArray) : S25 := ⟨2, s, 0, []⟩
theorem k_lf26 (W : World) (s : ByteArray) : k25.K W (lf26 s) [.int .i64 2, .string s, .int .i64 0, .slice none 0 0] := k25_mk W (lf26 s) (A3 := none) (c3 := 0) (Nat.le_refl _) (Kd.C_nil _ _)
theorem sym26_calls (s : ByteArray) (w : World) : Calls Tryd.prog 20 #[.string s] w fun e w' => e = .returned (.agg #[.int .i64 2, .string s, .int .i64 0, .slice none 0 0]) ∧ Below w.heap.size w w' := by
  have hu36 := Tryd.underlying25
  go_enter Tryd.func20, Tryd.ntmps20
  go_wp2
  refine bodyPost_ret (results_cell_row rfl _ _ w.heap.size 25 #[.int .i64 2, .string s, .int .i64 0, .slice none 0 0] (0, 0) _ rfl (blk_new w _) Tryd.underlying25 rfl (by kernel_rfl)) rfl ?_
  exact ⟨rfl, below_alloc (Below.refl _ _) _⟩
def aw26 : List S25 := [lf26 ⟨#[97]⟩, lf26 ⟨#[43]⟩, lf26 ⟨#[98]⟩, lf26 ⟨#[61]⟩, lf26 ⟨#[99]⟩]
end aws
end Go.Proofs.YthdppkmmfjaiaaaDoor.G
namespace Go.Proofs.YthdppkmmfjaiaaaDoor.G
open Go.RowKit Go.Proofs.YthdppkmmfjaiaaaDoorW.PrintWords Go.Proofs.YthdppkmmfjaiaaaDoorW.PrintLast Go.Proofs.YthdppkmmfjaiaaaDoorW.PrintMore
attribute [local go_sem] max2_int min2_int max_two min_two max_three min_three max_four min_four
set_option linter.unusedVariables false
set_option linter.unusedSimpArgs false
section cbk
theorem C_blk {α : Type} {d : Kd α} {W : World} {g t : Nat} {cs : List Value} {xs : List α} (hb : W.heap[g]? = some (.cells cs.toArray t (0, 0))) (hK : Reps (d.K W) d.sz xs cs) (hl : xs.length ≤ 9223372036854775807) : d.C W (some ⟨g, 0, none⟩) xs.length xs := by
  refine ⟨rfl, hl, fun _ => ⟨_, rfl, fun j p hj => ?_⟩⟩
  have h1 := hK.2 j p hj
  refine ⟨_, d.K_len h1, h1, fun i u hu => ?_⟩
  have hlt : i < d.sz := by have := (List.getElem?_eq_some_iff.1 hu).1; rw [List.length_take] at this; omega
  rw [List.getElem?_take_of_lt hlt, List.getElem?_drop] at hu
  have := (blk_cell hb (j * d.sz + i)).trans (by simpa using hu)
  have e : (⟨g, 0, none⟩ : Addr).add (j * d.sz + i) = ⟨g, j * d.sz + i, none⟩ := by unfold Addr.add; split <;> simp_all
  rw [e]; exact this
end cbk
end Go.Proofs.YthdppkmmfjaiaaaDoor.G
namespace Go.Proofs.YthdppkmmfjaiaaaDoor.G
open Go.RowKit Go.Proofs.YthdppkmmfjaiaaaDoorW.PrintWords Go.Proofs.YthdppkmmfjaiaaaDoorW.PrintLast Go.Proofs.YthdppkmmfjaiaaaDoorW.PrintMore
attribute [local go_sem] max2_int min2_int max_two min_two max_three min_three max_four min_four
set_option linter.unusedVariables false
set_option linter.unusedSimpArgs false
def vinculumlaw26_awake.f (k : Nat) : Option Bool := (vinculumref08_Default.f k).bind fun D => (atom_Classes.f k D aw26).bind fun r => (vinculumref26_Same.f k r.1 [0, 2, 0, 3, 0]).bind fun b => if r.2 = 0 then some b else none
set_option maxHeartbeats 4000000 in
set_option maxRecDepth 100000 in

theorem vinculumlaw26_awake.calls (k : Nat)  (r : Bool) (w : World) (h : vinculumlaw26_awake.f k  = some r) :
    Calls Tryd.prog 9 #[] w fun e w' => e = .returned (.bool r) ∧ Below w.heap.size w w' := by
  unfold vinculumlaw26_awake.f at h
  obtain ⟨D, hD, h1⟩ := Option.bind_eq_some_iff.mp h
  obtain ⟨⟨q1, q2⟩, hq, h2⟩ := Option.bind_eq_some_iff.mp h1
  obtain ⟨b, hs, h3⟩ := Option.bind_eq_some_iff.mp h2
  clear h h1 h2
  simp only at h3 hs
  by_cases hz : q2 = 0
  case neg => rw [if_neg hz] at h3; cases h3
  rw [if_pos hz] at h3
  subst hz
  obtain rfl := Option.some.inj h3
  have HD := Aside0.mk hD
  have HQ := Aside0.mk hq
  have HS := Aside0.mk hs
  have HP : Aside0 (atom_Space.f [] [] 1000 0 0 0 0 0 0 0 0 0 0 0 0 0 0 70 50 90 0 0 0 1 2 false = some (117, 0)) := ⟨by decide +kernel⟩
  have hu := Tryd.underlying35
  have hu2 := Tryd.underlying33
  have hu3 := Tryd.underlying38
  clear hD hq hs h3
  go_enter Tryd.func9, Tryd.ntmps9
  go_wp2_with fail
  refine (vinculumref08_Default.calls k D _ HD.out).mono ?_
  rintro e w1 ⟨v1, rfl, hR, hb⟩
  obtain ⟨A1, c1, rfl⟩ := Kd.R_slice hR
  have CD := Aside0.mk (Kd.R_reads' hR).2
  have HB1 := Aside0.mk hb
  clear hR hb
  go_wp2_with fail
  refine (sym26_calls _ _).mono ?_
  rintro e w2 ⟨rfl, hb⟩
  have CD2 := Aside0.mk (Kd.C_below CD.out.2 hb)
  have HB2 := Aside0.mk (below_step HB1.out hb)
  clear hb
  go_wp2_with fail
  refine (sym26_calls _ _).mono ?_
  rintro e w3 ⟨rfl, hb⟩
  have CD3 := Aside0.mk (Kd.C_below CD2.out hb)
  have HB3 := Aside0.mk (below_step HB2.out hb)
  clear hb
  go_wp2_with fail
  refine (sym26_calls _ _).mono ?_
  rintro e w4 ⟨rfl, hb⟩
  have CD4 := Aside0.mk (Kd.C_below CD3.out hb)
  have HB4 := Aside0.mk (below_step HB3.out hb)
  clear hb
  go_wp2_with fail
  refine (sym26_calls _ _).mono ?_
  rintro e w5 ⟨rfl, hb⟩
  have CD5 := Aside0.mk (Kd.C_below CD4.out hb)
  have HB5 := Aside0.mk (below_step HB4.out hb)
  clear hb
  go_wp2_with fail
  refine (sym26_calls _ _).mono ?_
  rintro e w6 ⟨rfl, hb⟩
  have CD6 := Aside0.mk (Kd.C_below CD5.out hb)
  have HB6 := Aside0.mk (below_step HB5.out hb)
  clear hb
  go_wp2_with fail
  have e1 := blk_new w6 (.cells #[.int .i64 2, .string ⟨#[97]⟩, .int .i64 0, .slice none 0 0, .int .i64 2, .string ⟨#[43]⟩, .int .i64 0, .slice none 0 0, .int .i64 2, .string ⟨#[98]⟩, .int .i64 0, .slice none 0 0, .int .i64 2, .string ⟨#[61]⟩, .int .i64 0, .slice none 0 0, .int .i64 2, .string ⟨#[99]⟩, .int .i64 0, .slice none 0 0] 25)
  have C1 := C_blk (d := k25) (xs := aw26) (cs := [.int .i64 2, .string ⟨#[97]⟩, .int .i64 0, .slice none 0 0, .int .i64 2, .string ⟨#[43]⟩, .int .i64 0, .slice none 0 0, .int .i64 2, .string ⟨#[98]⟩, .int .i64 0, .slice none 0 0, .int .i64 2, .string ⟨#[61]⟩, .int .i64 0, .slice none 0 0, .int .i64 2, .string ⟨#[99]⟩, .int .i64 0, .slice none 0 0]) e1 (Reps.c4 (k_lf26 _ ⟨#[97]⟩) (Reps.c4 (k_lf26 _ ⟨#[43]⟩) (Reps.c4 (k_lf26 _ ⟨#[98]⟩) (Reps.c4 (k_lf26 _ ⟨#[61]⟩) (Reps.c4 (k_lf26 _ ⟨#[99]⟩) (Reps.none _ _)))))) (by decide)
  have HB7 := Aside0.mk (below_alloc HB6.out (.cells #[.int .i64 2, .string ⟨#[97]⟩, .int .i64 0, .slice none 0 0, .int .i64 2, .string ⟨#[43]⟩, .int .i64 0, .slice none 0 0, .int .i64 2, .string ⟨#[98]⟩, .int .i64 0, .slice none 0 0, .int .i64 2, .string ⟨#[61]⟩, .int .i64 0, .slice none 0 0, .int .i64 2, .string ⟨#[99]⟩, .int .i64 0, .slice none 0 0] 25))
  refine (atom_Classes.calls k _ _ D _ _ aw26 q1 0 _ (Kd.C_alloc CD6.out _) CD.out.1 C1 (Nat.le_refl _) HQ.out).mono ?_
  clear e1 C1
  rintro e w7 ⟨v7, rfl, hR, hb⟩
  obtain ⟨A7, c7, rfl⟩ := Kd.R_slice hR
  have CQ := Aside0.mk (Kd.R_reads' hR).2
  have HB8 := Aside0.mk (below_step HB7.out hb)
  clear hR hb
  go_wp2_with (first
    | ((with_reducible refine gate_store (t := 35) (p := 3) rfl ?_); refine wpList_store_row rfl 35 _ _ rfl w7.heap.size #[.slice none 0 0, .slice none 0 0, .int .i64 1000, .int .i64 0, .int .i64 0, .int .i64 0, .int .i64 0, .int .i64 0, .int .i64 0, .int .i64 0, .int .i64 0, .int .i64 0, .int .i64 0, .int .i64 0, .int .i64 0, .int .i64 0, .int .i64 0, .int .i64 70, .int .i64 50, .int .i64 90, .int .i64 0, .int .i64 0] rfl rfl 35 #[.slice none 0 0, .slice none 0 0, .int .i64 0, .int .i64 0, .int .i64 0, .int .i64 0, .int .i64 0, .int .i64 0, .int .i64 0, .int .i64 0, .int .i64 0, .int .i64 0, .int .i64 0, .int .i64 0, .int .i64 0, .int .i64 0, .int .i64 0, .int .i64 0, .int .i64 0, .int .i64 0, .int .i64 0, .int .i64 0] (blk_new w7 _) (by kernel_rfl) (by kernel_rfl) (by kernel_rfl) ?_; rw [World.setRow_alloc_new])
    | ((with_reducible refine gate_dst (N := 20) rfl ?_); refine wpList_load_seg rfl 35 _ rfl w7.heap.size 0 rfl 35 _ (0, 0) _ [.slice none 0 0, .slice none 0 0, .int .i64 1000, .int .i64 0, .int .i64 0, .int .i64 0, .int .i64 0, .int .i64 0, .int .i64 0, .int .i64 0, .int .i64 0, .int .i64 0, .int .i64 0, .int .i64 0, .int .i64 0, .int .i64 0, .int .i64 0, .int .i64 70, .int .i64 50, .int .i64 90, .int .i64 0, .int .i64 0] (blk_new w7 _) [] rfl hu rfl (by kernel_rfl) ?_)
    | fail)
  have HB9 := Aside0.mk (below_alloc HB8.out (.cells #[.slice none 0 0, .slice none 0 0, .int .i64 1000, .int .i64 0, .int .i64 0, .int .i64 0, .int .i64 0, .int .i64 0, .int .i64 0, .int .i64 0, .int .i64 0, .int .i64 0, .int .i64 0, .int .i64 0, .int .i64 0, .int .i64 0, .int .i64 0, .int .i64 70, .int .i64 50, .int .i64 90, .int .i64 0, .int .i64 0] 35))
  have CQ9 := Aside0.mk (Kd.C_alloc CQ.out.2 (.cells #[.slice none 0 0, .slice none 0 0, .int .i64 1000, .int .i64 0, .int .i64 0, .int .i64 0, .int .i64 0, .int .i64 0, .int .i64 0, .int .i64 0, .int .i64 0, .int .i64 0, .int .i64 0, .int .i64 0, .int .i64 0, .int .i64 0, .int .i64 0, .int .i64 70, .int .i64 50, .int .i64 90, .int .i64 0, .int .i64 0] 35))
  refine (atom_Space.calls none 0 [] none 0 [] 1000 0 0 0 0 0 0 0 0 0 0 0 0 0 0 70 50 90 0 0 0 1 2 false 117 0 _ (Kd.C_nil _ _) (Nat.le_refl _) (Kd.C_nil _ _) (Nat.le_refl _) HP.out).mono ?_
  rintro e w8 ⟨rfl, hb⟩
  have HB10 := Aside0.mk (below_step HB9.out hb)
  have CQ10 := Aside0.mk (Kd.C_below CQ9.out hb)
  clear hb
  go_wp2_with fail
  have e1 := blk_new w8 (.cells #[.int .i64 0, .int .i64 2, .int .i64 0, .int .i64 3, .int .i64 0] 3)
  have C1 := C_blk (d := Kd.int .i64) (xs := [0, 2, 0, 3, 0]) (cs := [.int .i64 0, .int .i64 2, .int .i64 0, .int .i64 3, .int .i64 0]) e1 (Reps.one rfl (Reps.one rfl (Reps.one rfl (Reps.one rfl (Reps.one rfl (Reps.none _ _)))))) (by decide)
  refine (vinculumref26_Same.calls k _ _ q1 _ _ [0, 2, 0, 3, 0] b _ (Kd.C_alloc CQ10.out _) CQ.out.1 C1 (Nat.le_refl _) HS.out).mono ?_
  clear e1 C1
  rintro e w9 ⟨rfl, hd⟩
  have HB11 := Aside0.mk (below_step (below_alloc HB10.out _) hd.below)
  clear hd
  go_wp2
  go_ret
  exact ⟨rfl, HB11.out⟩
end Go.Proofs.YthdppkmmfjaiaaaDoor.G
namespace Go.Proofs.YthdppkmmfjaiaaaDoor.G.Pure
open Go.Proofs.YthdppkmmfjaiaaaDoorW.PrintWords Go.RowKit
set_option linter.unusedVariables false
set_option linter.unusedSimpArgs false
theorem same26_l (a b : List Int) (hl : a.length ≤ M) (he : a.length = b.length) : ∀ (m i : Nat), a.length - i = m → Ev (fun k => vinculumref26_Same.l0 k a b i) (decide (a.drop i = b.drop i)) := by
  intro m
  induction m with
  | zero =>
    intro i hi
    refine Ev.step (fun k => by rw [vinculumref26_Same.l0]) ?_
    refine ev_if (fun h => by omega) fun _ => ev_now ?_
    rw [List.drop_eq_nil_of_le (by omega), List.drop_eq_nil_of_le (by omega)]; rfl
  | succ m ih =>
    intro i hi
    unfold M at hl
    refine Ev.step (fun k => by rw [vinculumref26_Same.l0]) ?_
    refine ev_if (fun _ => ?_) fun h => by omega
    refine ev_if (fun _ => ?_) fun h => by omega
    refine ev_if (fun _ => ?_) fun h => by omega
    rw [rdI_at a i (by omega), rdI_at b i (by omega), List.drop_eq_getElem_cons (show i < a.length by omega), List.drop_eq_getElem_cons (show i < b.length by omega)]
    refine ev_if (fun h => ?_) fun h => ev_now ?_
    · rw [wr (n := (i : Int) + 1) (by omega)]
      have := ih (i + 1) (by omega)
      rw [decide_eq_decide.2 (show (a[i] :: a.drop (i + 1) = b[i]'(by omega) :: b.drop (i + 1)) ↔ (a.drop (i + 1) = b.drop (i + 1)) from ⟨fun e => (List.cons.inj e).2, fun e => by rw [h, e]⟩)]
      exact_mod_cast this
    · rw [decide_eq_false (fun e => h (List.cons.inj e).1)]
theorem same26_ev (a b : List Int) (hl : a.length ≤ M) : Ev (fun k => vinculumref26_Same.f k a b) (decide (a = b)) := by
  unfold vinculumref26_Same.f
  refine ev_if (fun h => ?_) fun h => ev_now ?_
  · have := same26_l a b hl (by omega) a.length 0 rfl
    simpa using this
  · rw [decide_eq_false (fun e => h (by rw [e]))]
def i26 : List S25 := aw26
theorem leaf26_ok (s : ByteArray) (hs : s.size ≤ 9223372036854775807) : OkNode ⟨2, s, 0, []⟩ := OkNode.mk _ (show OkI .i64 2 by unfold OkI; decide) (show OkS s from hs) (show OkI .i64 0 by unfold OkI; decide) (Nat.zero_le _) (fun y h => by cases h)
theorem i26_ok : OkL OkNode i26 := ⟨by decide, fun x h => by
  unfold i26 aw26 lf26 at h
  simp only [List.mem_cons, List.not_mem_nil, or_false] at h
  rcases h with rfl | rfl | rfl | rfl | rfl <;> exact leaf26_ok _ (by decide)⟩
theorem dflt26 : (vinculumref08_Default.f 20).map (fun D => decide (D.length ≤ 1000) && decide (clsB D i26 = ([0, 2, 0, 3, 0], 0))) = some true := by decide +kernel
theorem awake26_ev : Ev (fun k => vinculumlaw26_awake.f k) true := by
  obtain ⟨D, hD, hc⟩ := Option.map_eq_some_iff.1 dflt26
  rw [Bool.and_eq_true, decide_eq_true_eq, decide_eq_true_eq] at hc
  unfold vinculumlaw26_awake.f
  refine ev_bind (Ev.of (fun k => vinculumref08_Default.mono k) hD) ?_
  have h := pClasses_ev D i26 (by omega) i26_ok (by decide)
  rw [hc.2] at h
  refine ev_bind h ?_
  have := same26_ev [0, 2, 0, 3, 0] [0, 2, 0, 3, 0] (by decide)
  exact ev_bind this (ev_now rfl)
end Go.Proofs.YthdppkmmfjaiaaaDoor.G.Pure
namespace Go.Proofs.YthdppkmmfjaiaaaDoor.G
open Go.RowKit Go.Proofs.YthdppkmmfjaiaaaDoorW.PrintWords Go.Proofs.YthdppkmmfjaiaaaDoorW.PrintLast Go.Proofs.YthdppkmmfjaiaaaDoorW.PrintMore
attribute [local go_sem] max2_int min2_int max_two min_two max_three min_three max_four min_four
set_option linter.unusedVariables false
set_option linter.unusedSimpArgs false
section opl_
section lin
variable {H : Type} {enc : TypeId × Value → H} {W : World} {base : Nat} {v : Value} {d : DataW H} {ps : List MemPlace}
theorem list2 {α : Type} {cs : List α} (h : cs.length = 2) : ∃ a b, cs = [a, b] := by
  match cs, h with
  | [a, b], _ => exact ⟨a, b, rfl⟩
set_option maxRecDepth 100000 in
theorem line_arg (hv : Value.okWide Tryd.prog W .any base 45 v) (h : DataW.Trod enc Tryd.prog W 0 (fun _ => true) true 45 v d ps) :
    ∃ (x : List S59 × List S25) (A0 : Option Addr) (c0 : Nat) (A1 : Option Addr) (c1 : Nat), v = .agg #[.slice A0 x.1.length c0, .slice A1 x.2.length c1] ∧ x.1.length ≤ c0 ∧ Kd.C k59 W A0 x.1.length x.1 ∧ x.2.length ≤ c1 ∧ Kd.C k25 W A1 x.2.length x.2 ∧ (OkL OkEntry x.1 ∧ OkL OkNode x.2) := by
  have hu := Tryd.underlying45
  obtain ⟨cs, rfl⟩ := agg_arg hu hv
  obtain ⟨n, h⟩ := h
  obtain ⟨xs, m, rfl, _, hl, hxs, hf⟩ := DataW.trod_struct hu h
  have e0 := hf 0 _ rfl
  have e1 := hf 1 _ rfl
  have hlx : xs.length = 2 := hxs
  rw [List.getElem?_eq_getElem (by omega)] at e0 e1
  have c22_ : Tryd.prog.cellsOf 22 = 1 := by kernel_rfl
  have c23_ : Tryd.prog.cellsOf 23 = 1 := by kernel_rfl
  replace e0 : DataW.trod enc Tryd.prog W 0 (fun _ => true) true m 22 (((Value.agg cs).cells.toList.drop 0).take (Tryd.prog.cellsOf 22)) = some xs[0] := e0
  rw [c22_] at e0
  replace e1 : DataW.trod enc Tryd.prog W 0 (fun _ => true) true m 23 (((Value.agg cs).cells.toList.drop 1).take (Tryd.prog.cellsOf 23)) = some xs[1] := e1
  rw [c23_] at e1
  obtain ⟨a0, k0, o0⟩ := opn_slice 59 Tryd.underlying22 (show Tryd.prog.cellsOf 59 = k59.sz from by kernel_rfl) (fun q _ => opnEntry q) _ _ e0
  obtain ⟨a1, k1, o1⟩ := opn_slice 25 Tryd.underlying23 (show Tryd.prog.cellsOf 25 = k25.sz from by kernel_rfl) (fun q _ => opnNode q) _ _ e1
  have hl2 : (Value.agg cs).cells.toList.length = 2 := hl.trans (by kernel_rfl)
  obtain ⟨u0, u1, hcs⟩ := list2 hl2
  rw [hcs] at k0 k1
  obtain ⟨A0, c0, k0', hle0, hC0⟩ := k0
  obtain ⟨A1, c1, k1', hle1, hC1⟩ := k1
  have k0'' : [u0] = [Value.slice A0 a0.length c0] := k0'
  have k1'' : [u1] = [Value.slice A1 a1.length c1] := k1'
  simp only [List.cons.injEq, and_true] at k0'' k1''
  subst k0'' k1''
  refine ⟨(a0, a1), A0, c0, A1, c1, congrArg Value.agg (Array.toList_inj.1 ?_), hle0, hC0, hle1, hC1, o0, o1⟩
  have : cs.toList = _ := hcs
  rw [this]
end lin
end opl_
end Go.Proofs.YthdppkmmfjaiaaaDoor.G
namespace Go.Proofs.YthdppkmmfjaiaaaDoor.G
open Go.RowKit Go.Proofs.YthdppkmmfjaiaaaDoorW.PrintWords Go.Proofs.YthdppkmmfjaiaaaDoorW.PrintLast Go.Proofs.YthdppkmmfjaiaaaDoorW.PrintMore
attribute [local go_sem] max2_int min2_int max_two min_two max_three min_three max_four min_four
set_option linter.unusedVariables false
set_option linter.unusedSimpArgs false
def vinculumref09_ToRow.f (l0 : List (S25)) : Option (Int × ByteArray × Int × (List (S25))) := some (1, (⟨#[]⟩ : ByteArray), 0, l0)
set_option maxHeartbeats 8000000 in
set_option maxRecDepth 100000 in
theorem vinculumref09_ToRow.calls (P0_ : Nat → Prop) (A0 : Option Addr) (c0 : Nat) (l0 : List (S25)) (r1 : Int) (r2 : ByteArray) (r3 : Int) (r4 : List (S25)) (w : World) (hs0 : Kd.V k25 25 w w.heap.size (fun k_ => P0_ k_) (.slice A0 l0.length c0) l0) (h : vinculumref09_ToRow.f l0 = some (r1, r2, r3, r4)) :
    Calls Tryd.prog 55 #[.slice A0 l0.length c0] w fun e w' => ∃ v3_ : Value, e = .returned (.agg #[.int .i64 r1, .string r2, .int .i64 r3, v3_]) ∧ Kd.V k25 25 w' w.heap.size (fun k_ => (P0_ k_ ∨ w.heap.size ≤ k_)) v3_ r4 ∧ Below w.heap.size w w' := by
  have hu25 := Tryd.underlying25
  have HO0 := Aside0.mk (show Kd.V k25 25 w w.heap.size (fun k_ => (P0_ k_ ∨ w.heap.size ≤ k_)) (.slice A0 l0.length c0) l0 from Kd.V_mono hs0 (fun k_ hk => .inl hk))
  have HB := Aside0.mk (Below.refl w.heap.size w)
  have H : (some (1, (⟨#[]⟩ : ByteArray), 0, l0)) = some (r1, r2, r3, r4) := h
  clear h
  simp only [Option.some.injEq, Prod.mk.injEq] at H
  obtain ⟨rfl, rfl, rfl, rfl⟩ := H
  go_enter Tryd.func55, Tryd.ntmps55
  go_wp2_with (first | ((with_reducible refine gate_dst (N := 2) rfl ?_); refine box_event ?hg (N := 2) ?hd (cs := #[.int .i64 0, .string (⟨#[]⟩ : ByteArray), .int .i64 0, .slice none 0 0]) (t := 25) ?hr ?_; (case hd => rfl); (case hg => rfl); (case hr => first | (go_simp; done) | (go_simp; rfl)); intro gb370 hg w2 hbox hb; have n0_ := Aside0.mk (Kd.V_below (Kd.V_elderB (by (with_reducible repeat (first | apply Kd.V_alloc | apply Kd.V_drewN | apply Kd.V_drew)); exact HO0.out) gb370 (Nat.le_of_eq hg.symm)) hb); have n1_ := Aside0.mk (below_step (by repeat (first | (with_reducible first | exact HB.out | apply below_alloc | apply pw_below_drewN | apply below_drew1) | exact HB.out)) hb); have n2_ := Aside0.mk (hbox); have n3_ := Aside0.mk ((by rw [hg]; exact (below_size (by repeat (first | (with_reducible first | exact HB.out | apply below_alloc | apply pw_below_drewN | apply below_drew1) | exact HB.out))) : w.heap.size ≤ gb370)); have n4_ := Aside0.mk ((by rw [hg]; exact (below_size (by repeat (first | (with_reducible first | exact HB.out | apply below_alloc | apply pw_below_drewN | apply below_drew1) | exact HB.out))) : w.heap.size ≤ gb370)); clear HO0; clear HB; have HO0 := n0_; have HB := n1_; have BK370 := n2_; have GW370 := n3_; have GE370 := n4_; clear n0_ n1_ n2_ n3_ n4_; clear hb hbox hg; have hcz3_0 : w2.cell? ⟨gb370, 0, none⟩ = some (.int .i64 0) := (blk_cell BK370.out 0).trans rfl; have hcz3_1 : w2.cell? ⟨gb370, 1, none⟩ = some (.string (⟨#[]⟩ : ByteArray)) := (blk_cell BK370.out 1).trans rfl; have hcz3_2 : w2.cell? ⟨gb370, 2, none⟩ = some (.int .i64 0) := (blk_cell BK370.out 2).trans rfl; have hcz3_3 : w2.cell? ⟨gb370, 3, none⟩ = some (.slice none 0 0) := (blk_cell BK370.out 3).trans rfl; have hfz3_0 := blk_frozen BK370.out 0; have hfz3_1 := blk_frozen BK370.out 1; have hfz3_2 := blk_frozen BK370.out 2; have hfz3_3 := blk_frozen BK370.out 3))
  refine bodyPost_ret (results_cell_row rfl _ _ gb370 25 #[.int .i64 1, .string (⟨#[]⟩ : ByteArray), .int .i64 0, .slice A0 l0.length c0] (0, 0) _ rfl (by (with_reducible repeat (first | refine blk_drewN ?_ _ | refine blk_drew ?_ | refine blk_alloc ?_ _)); refine blk_put (cs := #[.int .i64 1, .string (⟨#[]⟩ : ByteArray), .int .i64 0, .slice none 0 0]) ?_ 3 _ rfl; (with_reducible repeat (first | refine blk_drewN ?_ _ | refine blk_drew ?_ | refine blk_alloc ?_ _)); refine blk_put (cs := #[.int .i64 1, .string (⟨#[]⟩ : ByteArray), .int .i64 0, .slice none 0 0]) ?_ 2 _ rfl; (with_reducible repeat (first | refine blk_drewN ?_ _ | refine blk_drew ?_ | refine blk_alloc ?_ _)); refine blk_put (cs := #[.int .i64 1, .string (⟨#[]⟩ : ByteArray), .int .i64 0, .slice none 0 0]) ?_ 1 _ rfl; (with_reducible repeat (first | refine blk_drewN ?_ _ | refine blk_drew ?_ | refine blk_alloc ?_ _)); refine blk_put (cs := #[.int .i64 0, .string (⟨#[]⟩ : ByteArray), .int .i64 0, .slice none 0 0]) ?_ 0 _ rfl; (with_reducible repeat (first | refine blk_drewN ?_ _ | refine blk_drew ?_ | refine blk_alloc ?_ _)); exact BK370.out) Tryd.underlying25 rfl (by kernel_rfl)) rfl ?_
  exact ⟨_, by first | rfl | (simp [errW_none, errW_some] <;> rfl) | (simp [*, errW_none, errW_some] <;> rfl), by (with_reducible repeat (first | apply Kd.V_alloc | apply Kd.V_drewN | apply Kd.V_drew)); exact Kd.V_mono (Kd.V_far (p := ⟨gb370, 3, none⟩) (Kd.V_far (p := ⟨gb370, 2, none⟩) (Kd.V_far (p := ⟨gb370, 1, none⟩) (Kd.V_far (p := ⟨gb370, 0, none⟩) (Kd.V_mono HO0.out (fun k_ hk => (⟨hk, hk.2⟩ : _ ∧ k_ ≠ gb370))) (fun _ hk => hk.2) (.int .i64 1)) (fun _ hk => hk.2) (.string (⟨#[]⟩ : ByteArray))) (fun _ hk => hk.2) (.int .i64 0)) (fun _ hk => hk.2) (.slice A0 l0.length c0)) (fun _ hk => hk.1.1), by repeat (first | (with_reducible first | exact HB.out | apply below_alloc | apply pw_below_drewN | apply below_drew1 | refine below_set ?_ GE370.out) | exact HB.out)⟩
end Go.Proofs.YthdppkmmfjaiaaaDoor.G
namespace Go.Proofs.YthdppkmmfjaiaaaDoor.G
open Go.RowKit Go.Proofs.YthdppkmmfjaiaaaDoorW.PrintWords Go.Proofs.YthdppkmmfjaiaaaDoorW.PrintLast Go.Proofs.YthdppkmmfjaiaaaDoorW.PrintMore
attribute [local go_sem] max2_int min2_int max_two min_two max_three min_three max_four min_four
set_option linter.unusedVariables false
set_option linter.unusedSimpArgs false
def vinculumref26_Few.f (k : Nat) (l0 : List (S25)) (a1 : Int) : Option (Bool) := (vinculumref09_ToRow.f l0).bind fun bt371 => ((vinculumref09_Few.f k bt371.1 bt371.2.1 bt371.2.2.1 bt371.2.2.2 a1).bind fun t377 => (some t377))
set_option maxHeartbeats 8000000 in
set_option maxRecDepth 100000 in
theorem vinculumref26_Few.calls (k : Nat) (A0 : Option Addr) (c0 : Nat) (l0 : List (S25)) (a1 : Int) (r : Bool) (w : World) (hr0 : Kd.C k25 w A0 l0.length l0) (hc0 : l0.length ≤ c0) (h : vinculumref26_Few.f k l0 a1 = some r) :
    Calls Tryd.prog 33 #[.slice A0 l0.length c0, .int .i64 a1] w fun e w' => e = .returned (.bool r) ∧ Below w.heap.size w w' := by
  have HR0 := Aside0.mk hr0
  have HC0 := Aside0.mk hc0
  clear hr0 hc0
  have HB := Aside0.mk (Below.refl w.heap.size w)
  have H : ((vinculumref09_ToRow.f l0).bind fun bt371 => ((vinculumref09_Few.f k bt371.1 bt371.2.1 bt371.2.2.1 bt371.2.2.2 a1).bind fun t377 => (some t377))) = some r := h
  clear h
  replace H := Option.bind_eq_some_iff.mp H
  obtain ⟨⟨t371, t372, t373, t374⟩, A30, H⟩ := H
  replace H : ((vinculumref09_Few.f k t371 t372 t373 t374 a1).bind fun t377 => (some t377)) = some r := H
  have A3 := Aside0.mk A30
  clear A30
  replace H := Option.bind_eq_some_iff.mp H
  obtain ⟨t377, A40, H⟩ := H
  replace H : (some t377) = some r := H
  have A4 := Aside0.mk A40
  clear A40
  obtain rfl := Option.some.inj H
  go_enter Tryd.func33, Tryd.ntmps33
  go_wp2_with (first | ((with_reducible refine gate_callee (f := 55) rfl ?_); refine goesL_ (some 6) rfl rfl Tryd.func55 (by kernel_rfl) rfl #[.slice A0 l0.length c0] rfl (by (try simp only [List.map_toArray, List.map_cons, List.map_nil]); first | done | rfl | (simp only [List.length_drop, List.length_take]; rfl)) ?_; (with_reducible refine (vinculumref09_ToRow.calls (fun k_ => k_ < w.heap.size) _ _ l0 t371 t372 t373 t374 _ ?side1 A3.out).mono ?_); (case side1 => exact Kd.V_mk HC0.out (Kd.F_below (Kd.C_F k25_heap HR0.out) (by repeat (first | (with_reducible first | exact HB.out | apply below_alloc | apply pw_below_drewN | apply below_drew1) | exact HB.out)))); rintro e w5 ⟨v375, rfl, ho0, hb⟩; refine ⟨_, rfl, ?_⟩; have n0_ := Aside0.mk (Kd.V_lower (Kd.V_mono (ok' := fun k_ => True) ho0 (fun k_ hk_ => trivial)) (below_size (by repeat (first | (with_reducible first | exact HB.out | apply below_alloc | apply pw_below_drewN | apply below_drew1) | exact HB.out)))); have n1_ := Aside0.mk (below_step (by repeat (first | (with_reducible first | exact HB.out | apply below_alloc | apply pw_below_drewN | apply below_drew1) | exact HB.out)) hb); clear HB; have HO376 := n0_; have HB := n1_; clear n0_ n1_; (try clear hb); (try clear hb2); (try clear hk); (try clear hi); (try clear ho0); obtain ⟨Ao6, co6, eo6⟩ := Kd.V_slice HO376.out; subst eo6) | ((with_reducible refine gate_callee (f := 10) rfl ?_); refine goesL_ (some 8) rfl rfl Tryd.func10 (by kernel_rfl) rfl #[.agg #[.int .i64 t371, .string t372, .int .i64 t373, .slice Ao6 t374.length co6], .int .i64 a1] rfl (by (try simp only [List.map_toArray, List.map_cons, List.map_nil]); first | done | rfl | (simp only [List.length_drop, List.length_take]; rfl)) ?_; (with_reducible refine (vinculumref09_Few.calls k t371 t372 t373 _ _ t374 a1 t377 _ ?side1 ?side2 A4.out).mono ?_); (case side1 => repeat (first | exact (Kd.V_reads' HO376.out).2.2 | (with_reducible refine Kd.C_alloc ?_ _) | (with_reducible refine Kd.C_drewN ?_ _) | (with_reducible refine Kd.C_drew ?_))); (case side2 => exact (Kd.V_reads' HO376.out).2.1); rintro e w7 ⟨rfl, hb⟩; refine ⟨_, rfl, ?_⟩; have n0_ := Aside0.mk (Kd.V_below (by (with_reducible repeat (first | apply Kd.V_alloc | apply Kd.V_drewN | apply Kd.V_drew)); exact HO376.out) hb); have n1_ := Aside0.mk (below_step (by repeat (first | (with_reducible first | exact HB.out | apply below_alloc | apply pw_below_drewN | apply below_drew1) | exact HB.out)) hb); clear HO376; clear HB; have HO376 := n0_; have HB := n1_; clear n0_ n1_; (try clear hb); (try clear hb2); (try clear hk); (try clear hi)))
  go_ret
  exact ⟨by first | rfl | (simp [errW_none, errW_some] <;> rfl) | (simp [*, errW_none, errW_some] <;> rfl), by repeat (first | (with_reducible first | exact HB.out | apply below_alloc | apply pw_below_drewN | apply below_drew1) | exact HB.out)⟩
end Go.Proofs.YthdppkmmfjaiaaaDoor.G
namespace Go.Proofs.YthdppkmmfjaiaaaDoor.G
open Go.RowKit Go.Proofs.YthdppkmmfjaiaaaDoorW.PrintWords Go.Proofs.YthdppkmmfjaiaaaDoorW.PrintLast Go.Proofs.YthdppkmmfjaiaaaDoorW.PrintMore
attribute [local go_sem] max2_int min2_int max_two min_two max_three min_three max_four min_four
set_option linter.unusedVariables false
set_option linter.unusedSimpArgs false
def vinculumlaw26_few.f (k : Nat) (l0_0 : List (S59)) (l0_1 : List (S25)) : Option (Bool) := if (l0_0.length : Int) ≤ 300 then ((vinculumref26_Few.f k l0_1 300).bind fun t379 => (some t379)) else (some false)
set_option maxHeartbeats 8000000 in
set_option maxRecDepth 100000 in
theorem vinculumlaw26_few.calls (k : Nat) (A0_0 : Option Addr) (c0_0 : Nat) (l0_0 : List (S59)) (A0_1 : Option Addr) (c0_1 : Nat) (l0_1 : List (S25)) (r : Bool) (w : World) (hr0_0 : Kd.C k59 w A0_0 l0_0.length l0_0) (hc0_0 : l0_0.length ≤ c0_0) (hr0_1 : Kd.C k25 w A0_1 l0_1.length l0_1) (hc0_1 : l0_1.length ≤ c0_1) (h : vinculumlaw26_few.f k l0_0 l0_1 = some r) :
    Calls Tryd.prog 16 #[.agg #[.slice A0_0 l0_0.length c0_0, .slice A0_1 l0_1.length c0_1]] w fun e w' => e = .returned (.bool r) ∧ Below w.heap.size w w' := by
  have hu45 := Tryd.underlying45
  have HR0_0 := Aside0.mk hr0_0
  have HC0_0 := Aside0.mk hc0_0
  clear hr0_0 hc0_0
  have HR0_1 := Aside0.mk hr0_1
  have HC0_1 := Aside0.mk hc0_1
  clear hr0_1 hc0_1
  have HB := Aside0.mk (Below.refl w.heap.size w)
  have H : (if (l0_0.length : Int) ≤ 300 then ((vinculumref26_Few.f k l0_1 300).bind fun t379 => (some t379)) else (some false)) = some r := h
  clear h
  by_cases c2 : (l0_0.length : Int) ≤ 300
  · rw [if_pos c2] at H
    have c2b0 : decide ((l0_0.length : Int) ≤ 300) = true := decide_eq_true c2
    have c2b1 : decide (l0_0.length ≤ 300) = true := decide_eq_true (by omega)
    clear c2
    replace H := Option.bind_eq_some_iff.mp H
    obtain ⟨t379, A30, H⟩ := H
    replace H : (some t379) = some r := H
    have A3 := Aside0.mk A30
    clear A30
    obtain rfl := Option.some.inj H
    go_enter Tryd.func16, Tryd.ntmps16
    go_wp2_with (first | ((with_reducible refine gate_dst (N := 1) rfl ?_); refine box_event ?hg (N := 1) ?hd (cs := #[.slice A0_0 l0_0.length c0_0, .slice A0_1 l0_1.length c0_1]) (t := 45) ?hr ?_; (case hd => rfl); (case hg => rfl); (case hr => first | (go_simp; done) | (go_simp; rfl)); intro gb378 hg w4 hbox hb; have n0_ := Aside0.mk (below_step (by repeat (first | (with_reducible first | exact HB.out | apply below_alloc | apply pw_below_drewN | apply below_drew1) | exact HB.out)) hb); have n1_ := Aside0.mk (hbox); have n2_ := Aside0.mk ((by rw [hg]; exact (below_size (by repeat (first | (with_reducible first | exact HB.out | apply below_alloc | apply pw_below_drewN | apply below_drew1) | exact HB.out))) : w.heap.size ≤ gb378)); have n3_ := Aside0.mk ((by rw [hg]; exact (below_size (by repeat (first | (with_reducible first | exact HB.out | apply below_alloc | apply pw_below_drewN | apply below_drew1) | exact HB.out))) : w.heap.size ≤ gb378)); clear HB; have HB := n0_; have BK378 := n1_; have GW378 := n2_; have GE378 := n3_; clear n0_ n1_ n2_ n3_; clear hb hbox hg; have hcz5_0 : w4.cell? ⟨gb378, 0, none⟩ = some (.slice A0_0 l0_0.length c0_0) := (blk_cell BK378.out 0).trans rfl; have hcz5_1 : w4.cell? ⟨gb378, 1, none⟩ = some (.slice A0_1 l0_1.length c0_1) := (blk_cell BK378.out 1).trans rfl; have hfz5_0 := blk_frozen BK378.out 0; have hfz5_1 := blk_frozen BK378.out 1) | (go_at_call 33; (with_reducible refine (vinculumref26_Few.calls k _ _ l0_1 300 t379 _ ?side1 ?side2 A3.out).mono ?_); (case side1 => repeat (first | exact (Kd.C_below HR0_1.out HB.out) | (with_reducible refine Kd.C_alloc ?_ _) | (with_reducible refine Kd.C_drewN ?_ _) | (with_reducible refine Kd.C_drew ?_))); (case side2 => exact HC0_1.out); rintro e w6 ⟨rfl, hb⟩; have n0_ := Aside0.mk (blk_below (g := gb378) (o := .cells #[.slice A0_0 l0_0.length c0_0, .slice A0_1 l0_1.length c0_1] 45 (0, 0)) (by (with_reducible repeat (first | refine blk_drewN ?_ _ | refine blk_drew ?_ | refine blk_alloc ?_ _)); exact BK378.out) hb); have n1_ := Aside0.mk (below_step (by repeat (first | (with_reducible first | exact HB.out | apply below_alloc | apply pw_below_drewN | apply below_drew1 | refine below_set ?_ GE378.out) | exact HB.out)) hb); clear BK378; clear HB; have BK378 := n0_; have HB := n1_; clear n0_ n1_; (try clear hb); (try clear hb2); (try clear hk); (try clear hi)))
    go_ret
    exact ⟨by first | rfl | (simp [errW_none, errW_some] <;> rfl) | (simp [*, errW_none, errW_some] <;> rfl), by repeat (first | (with_reducible first | exact HB.out | apply below_alloc | apply pw_below_drewN | apply below_drew1 | refine below_set ?_ GE378.out) | exact HB.out)⟩
  · rw [if_neg c2] at H
    have c2b0 : decide ((l0_0.length : Int) ≤ 300) = false := decide_eq_false c2
    have c2b1 : decide (l0_0.length ≤ 300) = false := decide_eq_false (by omega)
    clear c2
    obtain rfl := Option.some.inj H
    go_enter Tryd.func16, Tryd.ntmps16
    go_wp2_with (first | ((with_reducible refine gate_dst (N := 1) rfl ?_); refine box_event ?hg (N := 1) ?hd (cs := #[.slice A0_0 l0_0.length c0_0, .slice A0_1 l0_1.length c0_1]) (t := 45) ?hr ?_; (case hd => rfl); (case hg => rfl); (case hr => first | (go_simp; done) | (go_simp; rfl)); intro gb378 hg w7 hbox hb; have n0_ := Aside0.mk (below_step (by repeat (first | (with_reducible first | exact HB.out | apply below_alloc | apply pw_below_drewN | apply below_drew1) | exact HB.out)) hb); have n1_ := Aside0.mk (hbox); have n2_ := Aside0.mk ((by rw [hg]; exact (below_size (by repeat (first | (with_reducible first | exact HB.out | apply below_alloc | apply pw_below_drewN | apply below_drew1) | exact HB.out))) : w.heap.size ≤ gb378)); have n3_ := Aside0.mk ((by rw [hg]; exact (below_size (by repeat (first | (with_reducible first | exact HB.out | apply below_alloc | apply pw_below_drewN | apply below_drew1) | exact HB.out))) : w.heap.size ≤ gb378)); clear HB; have HB := n0_; have BK378 := n1_; have GW378 := n2_; have GE378 := n3_; clear n0_ n1_ n2_ n3_; clear hb hbox hg; have hcz8_0 : w7.cell? ⟨gb378, 0, none⟩ = some (.slice A0_0 l0_0.length c0_0) := (blk_cell BK378.out 0).trans rfl; have hcz8_1 : w7.cell? ⟨gb378, 1, none⟩ = some (.slice A0_1 l0_1.length c0_1) := (blk_cell BK378.out 1).trans rfl; have hfz8_0 := blk_frozen BK378.out 0; have hfz8_1 := blk_frozen BK378.out 1))
    go_ret
    exact ⟨by first | rfl | (simp [errW_none, errW_some] <;> rfl) | (simp [*, errW_none, errW_some] <;> rfl), by repeat (first | (with_reducible first | exact HB.out | apply below_alloc | apply pw_below_drewN | apply below_drew1 | refine below_set ?_ GE378.out) | exact HB.out)⟩
end Go.Proofs.YthdppkmmfjaiaaaDoor.G
