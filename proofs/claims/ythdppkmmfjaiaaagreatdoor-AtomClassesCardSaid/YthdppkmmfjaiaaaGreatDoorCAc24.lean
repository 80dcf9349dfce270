-- Written by pack2.py, a program of this session: this session's texts and those that the kit's printer wrote for this claim, pruned to what the claims use.
import Derived.Test.YthdppkmmfjaiaaaGreatDoorCAc2
namespace Go.Proofs.YthdppkmmfjaiaaaGreatDoor.G
open Go.RowKit Go.Proofs.YthdppkmmfjaiaaaGreatDoorW.PrintWords Go.Proofs.YthdppkmmfjaiaaaGreatDoorW.PrintLast Go.Proofs.YthdppkmmfjaiaaaGreatDoorW.PrintMore
attribute [local go_sem] max2_int min2_int max_two min_two max_three min_three max_four min_four
set_option linter.unusedVariables false
set_option linter.unusedSimpArgs false
section fpa
def inP (n : Int) : Bool := decide (1 ≤ n) && decide (n ≤ 100)
def inQ (n : Int) : Bool := decide (0 ≤ n) && decide (n ≤ 20000)
set_option maxRecDepth 100000 in
theorem idx3 (x0 x1 x2 : Int) (kk : Nat) (h : kk < 3) (W : World) : (Instr.index 105 (.agg #[.int .i64 x0, .int .i64 x1, .int .i64 x2]) (.int .i64 kk)).run Tryz.prog W = .ok (.int .i64 ([x0, x1, x2].getD kk 0)) W := by
  rcases kk with _ | _ | _ | kk
  · kernel_rfl
  · kernel_rfl
  · kernel_rfl
  · omega
set_option maxRecDepth 100000 in
theorem idx17 (x0 x1 x2 x3 x4 x5 x6 x7 x8 x9 x10 x11 x12 x13 x14 x15 x16 : Int) (kk : Nat) (h : kk < 17) (W : World) : (Instr.index 106 (.agg #[.int .i64 x0, .int .i64 x1, .int .i64 x2, .int .i64 x3, .int .i64 x4, .int .i64 x5, .int .i64 x6, .int .i64 x7, .int .i64 x8, .int .i64 x9, .int .i64 x10, .int .i64 x11, .int .i64 x12, .int .i64 x13, .int .i64 x14, .int .i64 x15, .int .i64 x16]) (.int .i64 kk)).run Tryz.prog W = .ok (.int .i64 ([x0, x1, x2, x3, x4, x5, x6, x7, x8, x9, x10, x11, x12, x13, x14, x15, x16].getD kk 0)) W := by
  rcases kk with _ | _ | _ | _ | _ | _ | _ | _ | _ | _ | _ | _ | _ | _ | _ | _ | _ | kk
  · kernel_rfl
  · kernel_rfl
  · kernel_rfl
  · kernel_rfl
  · kernel_rfl
  · kernel_rfl
  · kernel_rfl
  · kernel_rfl
  · kernel_rfl
  · kernel_rfl
  · kernel_rfl
  · kernel_rfl
  · kernel_rfl
  · kernel_rfl
  · kernel_rfl
  · kernel_rfl
  · kernel_rfl
  · omega
theorem all_false {l : List Int} {p : Int → Bool} {kk : Nat} (h : kk < l.length) (hp : p (l.getD kk 0) = false) : l.all p = false := by
  refine List.all_eq_false.2 ⟨l.getD kk 0, ?_, by rw [hp]; simp⟩
  rw [List.getD_eq_getElem?_getD, List.getElem?_eq_getElem h]
  exact List.getElem_mem h
theorem all_true {l : List Int} {p : Int → Bool} (h : ∀ j, j < l.length → p (l.getD j 0) = true) : l.all p = true := by
  refine List.all_eq_true.2 fun x hx => ?_
  obtain ⟨j, hj, rfl⟩ := List.getElem_of_mem hx
  have := h j hj
  rwa [List.getD_eq_getElem?_getD, List.getElem?_eq_getElem hj] at this
theorem run_loadVar_seg {P : Program} (w : World) (g o : Nat) (t ty : TypeId) (cs : Array Value) (fr : Nat × Nat) (d : TypeDesc) (seg : List Value) (hg : w.heap[g]? = some (.cells cs t fr)) (rest : List Value) (hs : cs.toList.drop o = seg ++ rest)
    (hu : P.underlying ty = some d) (hd : (match d with | .struct _ | .array _ _ => true | _ => false) = true) (hi : (P.info? ty).map (·.size) = some seg.length) :
    (loadVar ty ⟨g, o, none⟩).run P w = .ok (.agg seg.toArray) w := by
  have hl : (loadCells ⟨g, o, none⟩ seg.length).run P w = .ok seg.toArray w :=
    run_loadCells_list (P := P) w ⟨g, o, none⟩ seg (fun j v hv => by
      have hadd : (⟨g, o, none⟩ : Addr).add j = ⟨g, o + j, none⟩ := by unfold Addr.add; split <;> simp_all
      rw [hadd, cell_of_row w g (o + j) cs t fr hg]
      have hlt := (List.getElem?_eq_some_iff.1 hv).1
      have := congrArg (fun l => l[j]?) hs
      simp only [List.getElem?_drop, Array.getElem?_toList, List.getElem?_append_left hlt] at this
      rw [this]; exact hv)
  cases hq : P.info? ty with
  | none => simp [hq] at hi
  | some i =>
    have hs : i.size = seg.length := by simpa [hq] using hi
    have hagg : (isAgg ty).run P w = .ok true w := by
      unfold isAgg
      rw [Sem.run_bind, run_underlying hu w]
      cases d <;> simp_all
    simp [loadVar, Sem.run_bind, hagg, sizeOf, typeInfo, hq, hs, hl]
theorem wpList_load_seg {P : Program} {ops : Array Oper} {rest : List Oper} {o : Oper} {a : Act} {w : World} {Q : Exit → Act → World → Prop} (hgd : o.guard = none) (ty : TypeId) (x : Operand) (ho : o.op = .load ty x)
    (g off : Nat) (hx : a.eval x = .pointer (some ⟨g, off, none⟩)) (t : TypeId) (cs : Array Value) (fr : Nat × Nat) (d : TypeDesc) (seg : List Value) (hg : w.heap[g]? = some (.cells cs t fr)) (rst : List Value) (hs : cs.toList.drop off = seg ++ rst)
    (hu : P.underlying ty = some d) (hd : (match d with | .struct _ | .array _ _ => true | _ => false) = true) (hi : (P.info? ty).map (·.size) = some seg.length)
    (h : wpList P ops Q rest (a.put o.dst (.agg seg.toArray)) w) : wpList P ops Q (o :: rest) a w :=
  wpList_plain hgd fun _ hK => by
    unfold Oper.wp execOp
    simp only [ho, hx, Instr.loadAt, Instr.sureAddr, Sem.run_bind, Sem.run_pure, Result.andThen_ok, run_loadVar_seg w g off t ty cs fr d seg hg rst hs hu hd hi]
    exact hK _ _ h
end fpa
end Go.Proofs.YthdppkmmfjaiaaaGreatDoor.G
namespace Go.Proofs.YthdppkmmfjaiaaaGreatDoor.G
open Go.RowKit Go.Proofs.YthdppkmmfjaiaaaGreatDoorW.PrintWords Go.Proofs.YthdppkmmfjaiaaaGreatDoorW.PrintLast Go.Proofs.YthdppkmmfjaiaaaGreatDoorW.PrintMore
attribute [local go_sem] max2_int min2_int max_two min_two max_three min_three max_four min_four
set_option linter.unusedVariables false
set_option linter.unusedSimpArgs false
def font_params.f (a0_0 a0_1 a0_2 a0_3 a0_4 a0_5 a0_6 a0_7 a0_8 a0_9 a0_10 a0_11 a0_12 a0_13 a0_14 a0_15 a0_16 a0_17 a0_18 a0_19 : Int) : Option Bool := some ([a0_15, a0_16, a0_17].all inP && [a0_0, a0_1, a0_2, a0_3, a0_4, a0_5, a0_6, a0_7, a0_8, a0_9, a0_10, a0_11, a0_12, a0_13, a0_14, a0_18, a0_19].all inQ)
set_option maxHeartbeats 4000000 in
set_option maxRecDepth 100000 in

theorem font_params.calls (a0_0 : Int) (a0_1 : Int) (a0_2 : Int) (a0_3 : Int) (a0_4 : Int) (a0_5 : Int) (a0_6 : Int) (a0_7 : Int) (a0_8 : Int) (a0_9 : Int) (a0_10 : Int) (a0_11 : Int) (a0_12 : Int) (a0_13 : Int) (a0_14 : Int) (a0_15 : Int) (a0_16 : Int) (a0_17 : Int) (a0_18 : Int) (a0_19 : Int) (r : Bool) (w : World) (h : font_params.f a0_0 a0_1 a0_2 a0_3 a0_4 a0_5 a0_6 a0_7 a0_8 a0_9 a0_10 a0_11 a0_12 a0_13 a0_14 a0_15 a0_16 a0_17 a0_18 a0_19 = some r) :
    Calls Tryz.prog 52 #[.agg #[.int .i64 a0_0, .int .i64 a0_1, .int .i64 a0_2, .int .i64 a0_3, .int .i64 a0_4, .int .i64 a0_5, .int .i64 a0_6, .int .i64 a0_7, .int .i64 a0_8, .int .i64 a0_9, .int .i64 a0_10, .int .i64 a0_11, .int .i64 a0_12, .int .i64 a0_13, .int .i64 a0_14, .int .i64 a0_15, .int .i64 a0_16, .int .i64 a0_17, .int .i64 a0_18, .int .i64 a0_19]] w fun e w' => e = .returned (.bool r) ∧ Below w.heap.size w w' := by
  unfold font_params.f at h
  have HH := Aside0.mk (Option.some.inj h)
  clear h
  have hu := Tryz.underlying35
  have HB0 := Aside0.mk (below_alloc (Below.refl w.heap.size w) (.cells #[.int .i64 a0_0, .int .i64 a0_1, .int .i64 a0_2, .int .i64 a0_3, .int .i64 a0_4, .int .i64 a0_5, .int .i64 a0_6, .int .i64 a0_7, .int .i64 a0_8, .int .i64 a0_9, .int .i64 a0_10, .int .i64 a0_11, .int .i64 a0_12, .int .i64 a0_13, .int .i64 a0_14, .int .i64 a0_15, .int .i64 a0_16, .int .i64 a0_17, .int .i64 a0_18, .int .i64 a0_19] 35))
  go_enter Tryz.func52, Tryz.ntmps52
  go_wp2_with fail
  go_loopg [4, 14] 3 (fun gg _ v14 wr => ∃ kk : Nat, kk ≤ 3 ∧ 3 - kk ≤ gg ∧ v14 = .int .i64 kk ∧ Aside0 (wr = w.alloc (.cells #[.int .i64 a0_0, .int .i64 a0_1, .int .i64 a0_2, .int .i64 a0_3, .int .i64 a0_4, .int .i64 a0_5, .int .i64 a0_6, .int .i64 a0_7, .int .i64 a0_8, .int .i64 a0_9, .int .i64 a0_10, .int .i64 a0_11, .int .i64 a0_12, .int .i64 a0_13, .int .i64 a0_14, .int .i64 a0_15, .int .i64 a0_16, .int .i64 a0_17, .int .i64 a0_18, .int .i64 a0_19] 35)) ∧ Aside0 (∀ j, j < kk → inP ([a0_15, a0_16, a0_17].getD j 0) = true))
  case atStart => exact ⟨0, Nat.zero_le _, by omega, rfl, ⟨rfl⟩, ⟨fun j hj => absurd hj (Nat.not_lt_zero _)⟩⟩
  case round =>
    obtain ⟨kk, hkk, hgk, rfl, HW, HA⟩ := hrel
    by_cases hlt : kk < 3
    · have hd : decide ((kk : Int) < 3) = true := decide_eq_true (by omega)
      have hi := idx3 a0_15 a0_16 a0_17 kk hlt wr
      obtain ⟨y, hy⟩ : ∃ y, [a0_15, a0_16, a0_17].getD kk 0 = y := ⟨_, rfl⟩
      rw [hy] at hi
      have HY := Aside0.mk hy
      clear hy
      by_cases h1 : y < 1
      · have d1 : decide (y < 1) = true := decide_eq_true h1
        have HF : Aside0 (r = false) := ⟨by rw [← HH.out, all_false (kk := kk) (by simpa using hlt) (by rw [HY.out]; unfold inP; rw [decide_eq_false (by omega)]; rfl)]; rfl⟩
        go_wp2
        go_ret
        exact ⟨by rw [HF.out]; rfl, HW.out ▸ HB0.out⟩
      · have d1 : decide (y < 1) = false := decide_eq_false h1
        by_cases h2 : 100 < y
        · have d2 : decide (100 < y) = true := decide_eq_true h2
          have HF : Aside0 (r = false) := ⟨by rw [← HH.out, all_false (kk := kk) (by simpa using hlt) (by rw [HY.out]; unfold inP; rw [decide_eq_false (show ¬ y ≤ 100 by omega)]; simp)]; rfl⟩
          go_wp2
          go_ret
          exact ⟨by rw [HF.out]; rfl, HW.out ▸ HB0.out⟩
        · have d2 : decide (100 < y) = false := decide_eq_false h2
          have HG : Aside0 (inP y = true) := ⟨by unfold inP; rw [decide_eq_true (by omega), decide_eq_true (by omega)]; rfl⟩
          go_wp2
          go_roundg (3 - (kk + 1))
          case measure => omega
          case rel =>
            refine ⟨kk + 1, by omega, Nat.le_refl _, by go_num, HW, ⟨fun j hj => ?_⟩⟩
            rcases Nat.lt_or_ge j kk with h | h
            · exact HA.out j h
            · obtain rfl : j = kk := by omega
              rw [HY.out]; exact HG.out
    · have hd : decide ((kk : Int) < 3) = false := decide_eq_false (by omega)
      have HP : Aside0 ([a0_15, a0_16, a0_17].all inP = true) := ⟨all_true fun j hj => HA.out j (by simp at hj; omega)⟩
      have hw := HW.out
      subst hw
      clear HA HW
      go_wp2_with fail
      go_loopg [6, 59] 17 (fun gg _ v59 wr => ∃ kk : Nat, kk ≤ 17 ∧ 17 - kk ≤ gg ∧ v59 = .int .i64 kk ∧ Aside0 (Below w.heap.size w wr) ∧ Aside0 (∀ j, j < kk → inQ ([a0_0, a0_1, a0_2, a0_3, a0_4, a0_5, a0_6, a0_7, a0_8, a0_9, a0_10, a0_11, a0_12, a0_13, a0_14, a0_18, a0_19].getD j 0) = true))
      case atStart => exact ⟨0, Nat.zero_le _, by omega, rfl, HB0, ⟨fun j hj => absurd hj (Nat.not_lt_zero _)⟩⟩
      case round =>
        obtain ⟨kk, hkk, hgk, rfl, HW, HA⟩ := hrel
        by_cases hlt : kk < 17
        · have hd : decide ((kk : Int) < 17) = true := decide_eq_true (by omega)
          have hi := idx17 a0_0 a0_1 a0_2 a0_3 a0_4 a0_5 a0_6 a0_7 a0_8 a0_9 a0_10 a0_11 a0_12 a0_13 a0_14 a0_18 a0_19 kk hlt wr
          obtain ⟨y, hy⟩ : ∃ y, [a0_0, a0_1, a0_2, a0_3, a0_4, a0_5, a0_6, a0_7, a0_8, a0_9, a0_10, a0_11, a0_12, a0_13, a0_14, a0_18, a0_19].getD kk 0 = y := ⟨_, rfl⟩
          rw [hy] at hi
          have HY := Aside0.mk hy
          clear hy
          by_cases h1 : y < 0
          · have d1 : decide (y < 0) = true := decide_eq_true h1
            have HF : Aside0 (r = false) := ⟨by rw [← HH.out, HP.out, Bool.true_and]; exact all_false (kk := kk) (by simpa using hlt) (by rw [HY.out]; unfold inQ; rw [decide_eq_false (by omega)]; rfl)⟩
            go_wp2
            go_ret
            exact ⟨by rw [HF.out]; rfl, HW.out⟩
          · have d1 : decide (y < 0) = false := decide_eq_false h1
            by_cases h2 : 20000 < y
            · have d2 : decide (20000 < y) = true := decide_eq_true h2
              have HF : Aside0 (r = false) := ⟨by rw [← HH.out, HP.out, Bool.true_and]; exact all_false (kk := kk) (by simpa using hlt) (by rw [HY.out]; unfold inQ; rw [decide_eq_false (show ¬ y ≤ 20000 by omega)]; simp)⟩
              go_wp2
              go_ret
              exact ⟨by rw [HF.out]; rfl, HW.out⟩
            · have d2 : decide (20000 < y) = false := decide_eq_false h2
              have HG : Aside0 (inQ y = true) := ⟨by unfold inQ; rw [decide_eq_true (by omega), decide_eq_true (by omega)]; rfl⟩
              go_wp2
              go_roundg (17 - (kk + 1))
              case measure => omega
              case rel =>
                refine ⟨kk + 1, by omega, Nat.le_refl _, by go_num, HW, ⟨fun j hj => ?_⟩⟩
                rcases Nat.lt_or_ge j kk with h | h
                · exact HA.out j h
                · obtain rfl : j = kk := by omega
                  rw [HY.out]; exact HG.out
        · have hd : decide ((kk : Int) < 17) = false := decide_eq_false (by omega)
          have HF : Aside0 (r = true) := ⟨by rw [← HH.out, HP.out, Bool.true_and]; exact all_true fun j hj => HA.out j (by simp at hj; omega)⟩
          go_wp2
          go_ret
          exact ⟨by rw [HF.out]; rfl, HW.out⟩
end Go.Proofs.YthdppkmmfjaiaaaGreatDoor.G
namespace Go.Proofs.YthdppkmmfjaiaaaGreatDoor.G
open Go.RowKit Go.Proofs.YthdppkmmfjaiaaaGreatDoorW.PrintWords Go.Proofs.YthdppkmmfjaiaaaGreatDoorW.PrintLast Go.Proofs.YthdppkmmfjaiaaaGreatDoorW.PrintMore
attribute [local go_sem] max2_int min2_int max_two min_two max_three min_three max_four min_four
set_option linter.unusedVariables false
set_option linter.unusedSimpArgs false
def font_Valid.f (l0_0 : List (S83)) (l0_1 : List (S62)) (a0_2 a0_3 a0_4 a0_5 a0_6 a0_7 a0_8 a0_9 a0_10 a0_11 a0_12 a0_13 a0_14 a0_15 a0_16 a0_17 a0_18 a0_19 a0_20 a0_21 : Int) : Option Bool := if l0_0.length = 0 ∧ l0_1.length = 0 then font_params.f a0_2 a0_3 a0_4 a0_5 a0_6 a0_7 a0_8 a0_9 a0_10 a0_11 a0_12 a0_13 a0_14 a0_15 a0_16 a0_17 a0_18 a0_19 a0_20 a0_21 else none
set_option maxHeartbeats 4000000 in
set_option maxRecDepth 100000 in

theorem font_Valid.calls (A0_0 : Option Addr) (c0_0 : Nat) (l0_0 : List (S83)) (A0_1 : Option Addr) (c0_1 : Nat) (l0_1 : List (S62)) (a0_2 : Int) (a0_3 : Int) (a0_4 : Int) (a0_5 : Int) (a0_6 : Int) (a0_7 : Int) (a0_8 : Int) (a0_9 : Int) (a0_10 : Int) (a0_11 : Int) (a0_12 : Int) (a0_13 : Int) (a0_14 : Int) (a0_15 : Int) (a0_16 : Int) (a0_17 : Int) (a0_18 : Int) (a0_19 : Int) (a0_20 : Int) (a0_21 : Int) (r : Bool) (w : World) (hr0_0 : Kd.C k83 w A0_0 l0_0.length l0_0) (hc0_0 : l0_0.length ≤ c0_0) (hr0_1 : Kd.C k62 w A0_1 l0_1.length l0_1) (hc0_1 : l0_1.length ≤ c0_1) (h : font_Valid.f l0_0 l0_1 a0_2 a0_3 a0_4 a0_5 a0_6 a0_7 a0_8 a0_9 a0_10 a0_11 a0_12 a0_13 a0_14 a0_15 a0_16 a0_17 a0_18 a0_19 a0_20 a0_21 = some r) :
    Calls Tryz.prog 27 #[.agg #[.slice A0_0 l0_0.length c0_0, .slice A0_1 l0_1.length c0_1, .int .i64 a0_2, .int .i64 a0_3, .int .i64 a0_4, .int .i64 a0_5, .int .i64 a0_6, .int .i64 a0_7, .int .i64 a0_8, .int .i64 a0_9, .int .i64 a0_10, .int .i64 a0_11, .int .i64 a0_12, .int .i64 a0_13, .int .i64 a0_14, .int .i64 a0_15, .int .i64 a0_16, .int .i64 a0_17, .int .i64 a0_18, .int .i64 a0_19, .int .i64 a0_20, .int .i64 a0_21]] w fun e w' => e = .returned (.bool r) ∧ Below w.heap.size w w' := by
  unfold font_Valid.f at h
  split at h
  case isFalse => cases h
  rename_i hz
  have HH := Aside0.mk h
  have z0 := hz.1
  have z1 := hz.2
  clear h hz hr0_0 hc0_0 hr0_1 hc0_1
  rw [z0, z1]
  have hu := Tryz.underlying37
  have hmm := @run_makeMap Tryz.prog
  have X1 := Aside0.mk (blk_alloc (blk_alloc (blk_new w (.cells #[.slice A0_0 0 c0_0, .slice A0_1 0 c0_1, .int .i64 a0_2, .int .i64 a0_3, .int .i64 a0_4, .int .i64 a0_5, .int .i64 a0_6, .int .i64 a0_7, .int .i64 a0_8, .int .i64 a0_9, .int .i64 a0_10, .int .i64 a0_11, .int .i64 a0_12, .int .i64 a0_13, .int .i64 a0_14, .int .i64 a0_15, .int .i64 a0_16, .int .i64 a0_17, .int .i64 a0_18, .int .i64 a0_19, .int .i64 a0_20, .int .i64 a0_21] 37)) (.map #[] 0)) (.cells #[.map (some (w.heap.size + 1))] 81))
  have HB1 := Aside0.mk (below_alloc (below_alloc (below_alloc (Below.refl w.heap.size w) (.cells #[.slice A0_0 0 c0_0, .slice A0_1 0 c0_1, .int .i64 a0_2, .int .i64 a0_3, .int .i64 a0_4, .int .i64 a0_5, .int .i64 a0_6, .int .i64 a0_7, .int .i64 a0_8, .int .i64 a0_9, .int .i64 a0_10, .int .i64 a0_11, .int .i64 a0_12, .int .i64 a0_13, .int .i64 a0_14, .int .i64 a0_15, .int .i64 a0_16, .int .i64 a0_17, .int .i64 a0_18, .int .i64 a0_19, .int .i64 a0_20, .int .i64 a0_21] 37)) (.map #[] 0)) (.cells #[.map (some (w.heap.size + 1))] 81))
  go_enter Tryz.func27, Tryz.ntmps27
  go_wp2_with fail
  go_loopg [15] 0 (fun _ v15 wr => v15 = .int .i64 0 ∧ Aside0 (Below w.heap.size w wr) ∧ Aside0 (wr.heap[w.heap.size]? = some (.cells #[.slice A0_0 0 c0_0, .slice A0_1 0 c0_1, .int .i64 a0_2, .int .i64 a0_3, .int .i64 a0_4, .int .i64 a0_5, .int .i64 a0_6, .int .i64 a0_7, .int .i64 a0_8, .int .i64 a0_9, .int .i64 a0_10, .int .i64 a0_11, .int .i64 a0_12, .int .i64 a0_13, .int .i64 a0_14, .int .i64 a0_15, .int .i64 a0_16, .int .i64 a0_17, .int .i64 a0_18, .int .i64 a0_19, .int .i64 a0_20, .int .i64 a0_21] 37 (0, 0))))
  case atStart => exact ⟨rfl, HB1, X1⟩
  case round =>
    obtain ⟨rfl, HW, HX⟩ := hrel
    clear HB1 X1
    have c1 := (blk_cell (blk_alloc HX.out (.map #[] 0)) 1).trans rfl
    go_wp2_with fail
    have HB2 := Aside0.mk (below_alloc HW.out (.map #[] 0))
    have X2 := Aside0.mk (blk_alloc HX.out (.map #[] 0))
    clear c1 HX HW
    go_loopg [53] 0 (fun _ v53 wr => v53 = .int .i64 0 ∧ Aside0 (Below w.heap.size w wr) ∧ Aside0 (wr.heap[w.heap.size]? = some (.cells #[.slice A0_0 0 c0_0, .slice A0_1 0 c0_1, .int .i64 a0_2, .int .i64 a0_3, .int .i64 a0_4, .int .i64 a0_5, .int .i64 a0_6, .int .i64 a0_7, .int .i64 a0_8, .int .i64 a0_9, .int .i64 a0_10, .int .i64 a0_11, .int .i64 a0_12, .int .i64 a0_13, .int .i64 a0_14, .int .i64 a0_15, .int .i64 a0_16, .int .i64 a0_17, .int .i64 a0_18, .int .i64 a0_19, .int .i64 a0_20, .int .i64 a0_21] 37 (0, 0))))
    case atStart => exact ⟨rfl, HB2, X2⟩
    case round =>
      obtain ⟨rfl, HW, HX⟩ := hrel
      clear HB2 X2
      have c0 := (blk_cell HX.out 0).trans rfl
      have c1 := (blk_cell HX.out 1).trans rfl
      go_wp2_with (first
        | ((with_reducible refine gate_dst (N := 83) rfl ?_); refine gate_guard (by rfl) ?_; dsimp only; refine wpList_load_seg rfl 35 _ rfl w.heap.size 2 rfl 37 _ (0, 0) _ [.int .i64 a0_2, .int .i64 a0_3, .int .i64 a0_4, .int .i64 a0_5, .int .i64 a0_6, .int .i64 a0_7, .int .i64 a0_8, .int .i64 a0_9, .int .i64 a0_10, .int .i64 a0_11, .int .i64 a0_12, .int .i64 a0_13, .int .i64 a0_14, .int .i64 a0_15, .int .i64 a0_16, .int .i64 a0_17, .int .i64 a0_18, .int .i64 a0_19, .int .i64 a0_20, .int .i64 a0_21] HX.out [] rfl Tryz.underlying35 rfl (by kernel_rfl) ?_)
        | fail)
      refine (font_params.calls a0_2 a0_3 a0_4 a0_5 a0_6 a0_7 a0_8 a0_9 a0_10 a0_11 a0_12 a0_13 a0_14 a0_15 a0_16 a0_17 a0_18 a0_19 a0_20 a0_21 r _ HH.out).mono ?_
      rintro e w2 ⟨rfl, hb⟩
      have HB3 := Aside0.mk (below_step HW.out hb)
      clear hb
      go_wp2
      go_ret
      exact ⟨rfl, HB3.out⟩
end Go.Proofs.YthdppkmmfjaiaaaGreatDoor.G
namespace Go.Proofs.YthdppkmmfjaiaaaGreatDoor.G
open Go.RowKit Go.Proofs.YthdppkmmfjaiaaaGreatDoorW.PrintWords Go.Proofs.YthdppkmmfjaiaaaGreatDoorW.PrintLast Go.Proofs.YthdppkmmfjaiaaaGreatDoorW.PrintMore
attribute [local go_sem] max2_int min2_int max_two min_two max_three min_three max_four min_four
set_option linter.unusedVariables false
set_option linter.unusedSimpArgs false
def style_Valid.f (a0_0 : Int) (a0_1 : Bool) : Option (Bool) := if a0_0 ≥ 0 then (some (decide (a0_0 ≤ 3))) else (some false)
set_option maxHeartbeats 8000000 in
set_option maxRecDepth 100000 in
theorem style_Valid.calls (a0_0 : Int) (a0_1 : Bool) (r : Bool) (w : World) (h : style_Valid.f a0_0 a0_1 = some r) :
    Calls Tryz.prog 28 #[.agg #[.int .i64 a0_0, .bool a0_1]] w fun e w' => e = .returned (.bool r) ∧ Below w.heap.size w w' := by
  have hu41 := Tryz.underlying41
  have HB := Aside0.mk (Below.refl w.heap.size w)
  have H : (if a0_0 ≥ 0 then (some (decide (a0_0 ≤ 3))) else (some false)) = some r := h
  clear h
  by_cases c2 : a0_0 ≥ 0
  · rw [if_pos c2] at H
    have c2b0 : decide (0 ≤ a0_0) = true := decide_eq_true c2
    clear c2
    obtain rfl := Option.some.inj H
    go_enter Tryz.func28, Tryz.ntmps28
    go_wp2_with (first | ((with_reducible refine gate_dst (N := 1) rfl ?_); refine box_event ?hg (N := 1) ?hd (cs := #[.int .i64 a0_0, .bool a0_1]) (t := 41) ?hr ?_; (case hd => rfl); (case hg => rfl); (case hr => first | (go_simp; done) | (go_simp; rfl)); intro gb260 hg w3 hbox hb; have n0_ := Aside0.mk (below_step (by repeat (first | (with_reducible first | exact HB.out | apply below_alloc | apply pw_below_drewN | apply below_drew1) | exact HB.out)) hb); have n1_ := Aside0.mk (hbox); have n2_ := Aside0.mk ((by rw [hg]; exact (below_size (by repeat (first | (with_reducible first | exact HB.out | apply below_alloc | apply pw_below_drewN | apply below_drew1) | exact HB.out))) : w.heap.size ≤ gb260)); have n3_ := Aside0.mk ((by rw [hg]; exact (below_size (by repeat (first | (with_reducible first | exact HB.out | apply below_alloc | apply pw_below_drewN | apply below_drew1) | exact HB.out))) : w.heap.size ≤ gb260)); clear HB; have HB := n0_; have BK260 := n1_; have GW260 := n2_; have GE260 := n3_; clear n0_ n1_ n2_ n3_; clear hb hbox hg; have hcz4_0 : w3.cell? ⟨gb260, 0, none⟩ = some (.int .i64 a0_0) := (blk_cell BK260.out 0).trans rfl; have hcz4_1 : w3.cell? ⟨gb260, 1, none⟩ = some (.bool a0_1) := (blk_cell BK260.out 1).trans rfl; have hfz4_0 := blk_frozen BK260.out 0; have hfz4_1 := blk_frozen BK260.out 1))
    go_ret
    exact ⟨by first | rfl | (simp [errW_none, errW_some] <;> rfl) | (simp [*, errW_none, errW_some] <;> rfl), by repeat (first | (with_reducible first | exact HB.out | apply below_alloc | apply pw_below_drewN | apply below_drew1 | refine below_set ?_ GE260.out) | exact HB.out)⟩
  · rw [if_neg c2] at H
    have c2b0 : decide (0 ≤ a0_0) = false := decide_eq_false c2
    clear c2
    obtain rfl := Option.some.inj H
    go_enter Tryz.func28, Tryz.ntmps28
    go_wp2_with (first | ((with_reducible refine gate_dst (N := 1) rfl ?_); refine box_event ?hg (N := 1) ?hd (cs := #[.int .i64 a0_0, .bool a0_1]) (t := 41) ?hr ?_; (case hd => rfl); (case hg => rfl); (case hr => first | (go_simp; done) | (go_simp; rfl)); intro gb260 hg w5 hbox hb; have n0_ := Aside0.mk (below_step (by repeat (first | (with_reducible first | exact HB.out | apply below_alloc | apply pw_below_drewN | apply below_drew1) | exact HB.out)) hb); have n1_ := Aside0.mk (hbox); have n2_ := Aside0.mk ((by rw [hg]; exact (below_size (by repeat (first | (with_reducible first | exact HB.out | apply below_alloc | apply pw_below_drewN | apply below_drew1) | exact HB.out))) : w.heap.size ≤ gb260)); have n3_ := Aside0.mk ((by rw [hg]; exact (below_size (by repeat (first | (with_reducible first | exact HB.out | apply below_alloc | apply pw_below_drewN | apply below_drew1) | exact HB.out))) : w.heap.size ≤ gb260)); clear HB; have HB := n0_; have BK260 := n1_; have GW260 := n2_; have GE260 := n3_; clear n0_ n1_ n2_ n3_; clear hb hbox hg; have hcz6_0 : w5.cell? ⟨gb260, 0, none⟩ = some (.int .i64 a0_0) := (blk_cell BK260.out 0).trans rfl; have hcz6_1 : w5.cell? ⟨gb260, 1, none⟩ = some (.bool a0_1) := (blk_cell BK260.out 1).trans rfl; have hfz6_0 := blk_frozen BK260.out 0; have hfz6_1 := blk_frozen BK260.out 1))
    go_ret
    exact ⟨by first | rfl | (simp [errW_none, errW_some] <;> rfl) | (simp [*, errW_none, errW_some] <;> rfl), by repeat (first | (with_reducible first | exact HB.out | apply below_alloc | apply pw_below_drewN | apply below_drew1 | refine below_set ?_ GE260.out) | exact HB.out)⟩
end Go.Proofs.YthdppkmmfjaiaaaGreatDoor.G
namespace Go.Proofs.YthdppkmmfjaiaaaGreatDoor.G
open Go.RowKit Go.Proofs.YthdppkmmfjaiaaaGreatDoorW.PrintWords Go.Proofs.YthdppkmmfjaiaaaGreatDoorW.PrintLast Go.Proofs.YthdppkmmfjaiaaaGreatDoorW.PrintMore
attribute [local go_sem] max2_int min2_int max_two min_two max_three min_three max_four min_four
set_option linter.unusedVariables false
set_option linter.unusedSimpArgs false
def style_Percent.f (l0_0 : List (S83)) (l0_1 : List (S62)) (a0_2 a0_3 a0_4 a0_5 a0_6 a0_7 a0_8 a0_9 a0_10 a0_11 a0_12 a0_13 a0_14 a0_15 a0_16 a0_17 a0_18 a0_19 a0_20 a0_21 a1_0 : Int) (a1_1 : Bool) : Option (Int × Int) := (style_Valid.f a1_0 a1_1).bind fun t => if t = true then ((font_Valid.f l0_0 l0_1 a0_2 a0_3 a0_4 a0_5 a0_6 a0_7 a0_8 a0_9 a0_10 a0_11 a0_12 a0_13 a0_14 a0_15 a0_16 a0_17 a0_18 a0_19 a0_20 a0_21).bind fun b => if b = true then some (if a1_0 = 2 then a0_17 else if a1_0 = 3 then a0_18 else 100, 0) else some (0, 1)) else some (0, 1)
set_option maxHeartbeats 4000000 in
set_option maxRecDepth 100000 in

theorem style_Percent.calls (A0_0 : Option Addr) (c0_0 : Nat) (l0_0 : List (S83)) (A0_1 : Option Addr) (c0_1 : Nat) (l0_1 : List (S62)) (a0_2 : Int) (a0_3 : Int) (a0_4 : Int) (a0_5 : Int) (a0_6 : Int) (a0_7 : Int) (a0_8 : Int) (a0_9 : Int) (a0_10 : Int) (a0_11 : Int) (a0_12 : Int) (a0_13 : Int) (a0_14 : Int) (a0_15 : Int) (a0_16 : Int) (a0_17 : Int) (a0_18 : Int) (a0_19 : Int) (a0_20 : Int) (a0_21 : Int) (a1_0 : Int) (a1_1 : Bool) (r1 : Int) (r2 : Int) (w : World) (hr0_0 : Kd.C k83 w A0_0 l0_0.length l0_0) (hc0_0 : l0_0.length ≤ c0_0) (hr0_1 : Kd.C k62 w A0_1 l0_1.length l0_1) (hc0_1 : l0_1.length ≤ c0_1) (h : style_Percent.f l0_0 l0_1 a0_2 a0_3 a0_4 a0_5 a0_6 a0_7 a0_8 a0_9 a0_10 a0_11 a0_12 a0_13 a0_14 a0_15 a0_16 a0_17 a0_18 a0_19 a0_20 a0_21 a1_0 a1_1 = some (r1, r2)) :
    Calls Tryz.prog 33 #[.agg #[.slice A0_0 l0_0.length c0_0, .slice A0_1 l0_1.length c0_1, .int .i64 a0_2, .int .i64 a0_3, .int .i64 a0_4, .int .i64 a0_5, .int .i64 a0_6, .int .i64 a0_7, .int .i64 a0_8, .int .i64 a0_9, .int .i64 a0_10, .int .i64 a0_11, .int .i64 a0_12, .int .i64 a0_13, .int .i64 a0_14, .int .i64 a0_15, .int .i64 a0_16, .int .i64 a0_17, .int .i64 a0_18, .int .i64 a0_19, .int .i64 a0_20, .int .i64 a0_21], .agg #[.int .i64 a1_0, .bool a1_1]] w fun e w' => e = .returned (.tuple #[.int .i64 r1, .int .i64 r2]) ∧ Below w.heap.size w w' := by
  unfold style_Percent.f at h
  obtain ⟨t, hs, h⟩ := Option.bind_eq_some_iff.mp h
  have HR0 := Aside0.mk hr0_0
  have HC0 := Aside0.mk hc0_0
  have HR1 := Aside0.mk hr0_1
  have HC1 := Aside0.mk hc0_1
  have HS := Aside0.mk hs
  clear hr0_0 hc0_0 hr0_1 hc0_1 hs
  have hu := Tryz.underlying37
  have hu2 := Tryz.underlying41
  have hu3 := Tryz.underlying35
  have X1 := Aside0.mk (blk_alloc (blk_new w (.cells #[.slice A0_0 l0_0.length c0_0, .slice A0_1 l0_1.length c0_1, .int .i64 a0_2, .int .i64 a0_3, .int .i64 a0_4, .int .i64 a0_5, .int .i64 a0_6, .int .i64 a0_7, .int .i64 a0_8, .int .i64 a0_9, .int .i64 a0_10, .int .i64 a0_11, .int .i64 a0_12, .int .i64 a0_13, .int .i64 a0_14, .int .i64 a0_15, .int .i64 a0_16, .int .i64 a0_17, .int .i64 a0_18, .int .i64 a0_19, .int .i64 a0_20, .int .i64 a0_21] 37)) (.cells #[.int .i64 a1_0, .bool a1_1] 41))
  have HB1 := Aside0.mk (below_alloc (below_alloc (Below.refl w.heap.size w) (.cells #[.slice A0_0 l0_0.length c0_0, .slice A0_1 l0_1.length c0_1, .int .i64 a0_2, .int .i64 a0_3, .int .i64 a0_4, .int .i64 a0_5, .int .i64 a0_6, .int .i64 a0_7, .int .i64 a0_8, .int .i64 a0_9, .int .i64 a0_10, .int .i64 a0_11, .int .i64 a0_12, .int .i64 a0_13, .int .i64 a0_14, .int .i64 a0_15, .int .i64 a0_16, .int .i64 a0_17, .int .i64 a0_18, .int .i64 a0_19, .int .i64 a0_20, .int .i64 a0_21] 37)) (.cells #[.int .i64 a1_0, .bool a1_1] 41))
  have Y1 := blk_new (w.alloc (.cells #[.slice A0_0 l0_0.length c0_0, .slice A0_1 l0_1.length c0_1, .int .i64 a0_2, .int .i64 a0_3, .int .i64 a0_4, .int .i64 a0_5, .int .i64 a0_6, .int .i64 a0_7, .int .i64 a0_8, .int .i64 a0_9, .int .i64 a0_10, .int .i64 a0_11, .int .i64 a0_12, .int .i64 a0_13, .int .i64 a0_14, .int .i64 a0_15, .int .i64 a0_16, .int .i64 a0_17, .int .i64 a0_18, .int .i64 a0_19, .int .i64 a0_20, .int .i64 a0_21] 37)) (.cells #[.int .i64 a1_0, .bool a1_1] 41)
  rw [World.size_alloc] at Y1
  have HY1 := Aside0.mk Y1
  clear Y1
  cases t with
  | false =>
    rw [if_neg (by simp)] at h
    obtain ⟨rfl, rfl⟩ : 0 = r1 ∧ 1 = r2 := by simpa using h
    clear h
    go_enter Tryz.func33, Tryz.ntmps33
    go_wp2_with fail
    refine (style_Valid.calls a1_0 a1_1 false _ HS.out).mono ?_
    rintro e w2 ⟨rfl, hb⟩
    have HB2 := Aside0.mk (below_step HB1.out hb)
    clear hb
    go_wp2
    go_ret2
    exact ⟨rfl, HB2.out⟩
  | true =>
    rw [if_pos rfl] at h
    obtain ⟨b, hv, h⟩ := Option.bind_eq_some_iff.mp h
    have HV := Aside0.mk hv
    clear hv
    go_enter Tryz.func33, Tryz.ntmps33
    go_wp2_with fail
    refine (style_Valid.calls a1_0 a1_1 true _ HS.out).mono ?_
    rintro e w2 ⟨rfl, hb⟩
    have X2 := Aside0.mk (blk_below X1.out hb)
    have HY2 := Aside0.mk (blk_below HY1.out hb)
    have HB2 := Aside0.mk (below_step HB1.out hb)
    clear hb X1 HY1 HB1
    go_wp2_with (first
      | ((with_reducible refine gate_dst (N := 10) rfl ?_); refine gate_guard (by rfl) ?_; dsimp only; refine wpList_load_seg rfl 37 _ rfl w.heap.size 0 rfl 37 _ (0, 0) _ [.slice A0_0 l0_0.length c0_0, .slice A0_1 l0_1.length c0_1, .int .i64 a0_2, .int .i64 a0_3, .int .i64 a0_4, .int .i64 a0_5, .int .i64 a0_6, .int .i64 a0_7, .int .i64 a0_8, .int .i64 a0_9, .int .i64 a0_10, .int .i64 a0_11, .int .i64 a0_12, .int .i64 a0_13, .int .i64 a0_14, .int .i64 a0_15, .int .i64 a0_16, .int .i64 a0_17, .int .i64 a0_18, .int .i64 a0_19, .int .i64 a0_20, .int .i64 a0_21] X2.out [] rfl hu rfl (by kernel_rfl) ?_)
      | fail)
    refine (font_Valid.calls A0_0 c0_0 l0_0 A0_1 c0_1 l0_1 a0_2 a0_3 a0_4 a0_5 a0_6 a0_7 a0_8 a0_9 a0_10 a0_11 a0_12 a0_13 a0_14 a0_15 a0_16 a0_17 a0_18 a0_19 a0_20 a0_21 b _ (Kd.C_below HR0.out HB2.out) HC0.out (Kd.C_below HR1.out HB2.out) HC1.out HV.out).mono ?_
    rintro e w3 ⟨rfl, hb⟩
    have X3 := Aside0.mk (blk_below X2.out hb)
    have HY3 := Aside0.mk (blk_below HY2.out hb)
    have HB3 := Aside0.mk (below_step HB2.out hb)
    clear hb X2 HY2 HB2
    have y0 := (blk_cell HY3.out 0).trans rfl
    have x17 := (blk_cell X3.out 17).trans rfl
    have x18 := (blk_cell X3.out 18).trans rfl
    cases b with
    | false =>
      rw [if_neg (by simp)] at h
      obtain ⟨rfl, rfl⟩ : 0 = r1 ∧ 1 = r2 := by simpa using h
      clear h
      go_wp2
      go_ret2
      exact ⟨rfl, HB3.out⟩
    | true =>
      rw [if_pos rfl] at h
      by_cases h2 : a1_0 = 2
      · have e2 : (a1_0 == 2) = true := beq_iff_eq.2 h2
        rw [if_pos h2] at h
        obtain ⟨rfl, rfl⟩ : a0_17 = r1 ∧ 0 = r2 := by simpa using h
        clear h h2
        go_wp2
        go_ret2
        exact ⟨rfl, HB3.out⟩
      · have e2 : (a1_0 == 2) = false := beq_eq_false_iff_ne.2 h2
        rw [if_neg h2] at h
        by_cases h3 : a1_0 = 3
        · have e3 : (a1_0 == 3) = true := beq_iff_eq.2 h3
          rw [if_pos h3] at h
          obtain ⟨rfl, rfl⟩ : a0_18 = r1 ∧ 0 = r2 := by simpa using h
          clear h h2 h3
          go_wp2
          go_ret2
          exact ⟨rfl, HB3.out⟩
        · have e3 : (a1_0 == 3) = false := beq_eq_false_iff_ne.2 h3
          rw [if_neg h3] at h
          obtain ⟨rfl, rfl⟩ : 100 = r1 ∧ 0 = r2 := by simpa using h
          clear h h2 h3
          go_wp2
          go_ret2
          exact ⟨rfl, HB3.out⟩
end Go.Proofs.YthdppkmmfjaiaaaGreatDoor.G
namespace Go.Proofs.YthdppkmmfjaiaaaGreatDoor.G
open Go.RowKit Go.Proofs.YthdppkmmfjaiaaaGreatDoorW.PrintWords Go.Proofs.YthdppkmmfjaiaaaGreatDoorW.PrintLast Go.Proofs.YthdppkmmfjaiaaaGreatDoorW.PrintMore
attribute [local go_sem] max2_int min2_int max_two min_two max_three min_three max_four min_four
set_option linter.unusedVariables false
set_option linter.unusedSimpArgs false
def length_Valid.f (a0 : Int) : Option (Bool) := if a0 ≥ (-1073741824) then (some (decide (a0 ≤ 1073741824))) else (some false)
set_option maxHeartbeats 8000000 in
set_option maxRecDepth 100000 in
theorem length_Valid.calls (a0 : Int) (r : Bool) (w : World) (h : length_Valid.f a0 = some r) :
    Calls Tryz.prog 60 #[.int .i64 a0] w fun e w' => e = .returned (.bool r) ∧ Drawn0 w w' := by
  have H : (if a0 ≥ (-1073741824) then (some (decide (a0 ≤ 1073741824))) else (some false)) = some r := h
  clear h
  by_cases c2 : a0 ≥ (-1073741824)
  · rw [if_pos c2] at H
    have c2b0 : decide ((-1073741824) ≤ a0) = true := decide_eq_true c2
    clear c2
    obtain rfl := Option.some.inj H
    go_enter Tryz.func60, Tryz.ntmps60
    go_wp2
    go_ret
    exact ⟨by first | rfl | (simp; done) | (simp [*]; done), by repeat (first | exact Drawn0.refl _ | apply Drawn0.step)⟩
  · rw [if_neg c2] at H
    have c2b0 : decide ((-1073741824) ≤ a0) = false := decide_eq_false c2
    clear c2
    obtain rfl := Option.some.inj H
    go_enter Tryz.func60, Tryz.ntmps60
    go_wp2
    go_ret
    exact ⟨by first | rfl | (simp; done) | (simp [*]; done), by repeat (first | exact Drawn0.refl _ | apply Drawn0.step)⟩
end Go.Proofs.YthdppkmmfjaiaaaGreatDoor.G
namespace Go.Proofs.YthdppkmmfjaiaaaGreatDoor.G
open Go.RowKit Go.Proofs.YthdppkmmfjaiaaaGreatDoorW.PrintWords Go.Proofs.YthdppkmmfjaiaaaGreatDoorW.PrintLast Go.Proofs.YthdppkmmfjaiaaaGreatDoorW.PrintMore
attribute [local go_sem] max2_int min2_int max_two min_two max_three min_three max_four min_four
set_option linter.unusedVariables false
set_option linter.unusedSimpArgs false
def length_round.j0 : Nat → Int → Int → Option (Int)
  | 0, _, _ => none
  | k + 1, x0, x1 => if x1 = 0 then (none) else (if (wrap64 (2 * (Int.tmod x0 x1))) ≥ x1 then (some (wrap64 ((wrap64 (Int.tdiv x0 x1)) + 1))) else (if (wrap64 ((-2) * (Int.tmod x0 x1))) ≥ x1 then (some (wrap64 ((wrap64 (Int.tdiv x0 x1)) - 1))) else (some (wrap64 (Int.tdiv x0 x1)))))
def length_round.f (k : Nat) (a0 : Int) (a1 : Int) : Option (Int) := if a1 < 0 then (length_round.j0 k (wrap64 (-a0)) (wrap64 (-a1))) else (length_round.j0 k a0 a1)
set_option maxHeartbeats 8000000 in
set_option maxRecDepth 100000 in
theorem length_round.calls (k : Nat) (a0 : Int) (a1 : Int) (r : Int) (w : World) (h : length_round.f k a0 a1 = some r) :
    Calls Tryz.prog 61 #[.int .i64 a0, .int .i64 a1] w fun e w' => e = .returned (.int .i64 r) ∧ Drawn0 w w' := by
  have H : (if a1 < 0 then (length_round.j0 k (wrap64 (-a0)) (wrap64 (-a1))) else (length_round.j0 k a0 a1)) = some r := h
  clear h
  have HC3 := Aside0.mk H
  clear H
  go_enter Tryz.func61, Tryz.ntmps61
  go_upto_if 8 with (fail)
  repeat (go_quiet (fail); go_upto_if 8 with (fail))
  go_cut [0, 1] (fun v0 v1 wc => ∃ (kq : Nat) (x0_2 : Int) (x1_2 : Int), v0 = .int .i64 x0_2 ∧ v1 = .int .i64 x1_2 ∧ Aside0 (length_round.j0 kq x0_2 x1_2 = some r) ∧ Aside0 (kq ≤ k) ∧ Drawn0 w wc)
  case first =>
    have H := HC3.out
    clear HC3
    by_cases c4 : a1 < 0
    · rw [if_pos c4] at H
      have c4b0 : decide (a1 < 0) = true := decide_eq_true c4
      clear c4
      (first | rw [c4b0] | (simp only [i64_w, i32_w]; rw [c4b0]) | skip)
      have H' := Aside0.mk H
      clear H
      go_wp2
      repeat (go_quiet (fail); try go_wp2)
      go_meet
      case rel => exact ⟨_, (wrap64 (-a0)), (wrap64 (-a1)), (by first | rfl | (simp; done) | (simp [*]; done)), (by first | rfl | (simp; done) | (simp [*]; done)), H', ⟨by first | omega | exact Nat.le_refl _⟩, by repeat (first | exact Drawn0.refl _ | apply Drawn0.step)⟩
    · rw [if_neg c4] at H
      have c4b0 : decide (a1 < 0) = false := decide_eq_false c4
      clear c4
      (first | rw [c4b0] | (simp only [i64_w, i32_w]; rw [c4b0]) | skip)
      have H' := Aside0.mk H
      clear H
      go_wp2
      repeat (go_quiet (fail); try go_wp2)
      go_meet
      case rel => exact ⟨_, (a0), (a1), (by first | rfl | (simp; done) | (simp [*]; done)), (by first | rfl | (simp; done) | (simp [*]; done)), H', ⟨by first | omega | exact Nat.le_refl _⟩, by repeat (first | exact Drawn0.refl _ | apply Drawn0.step)⟩
  case rest =>
    clear HC3
    try clear p2
    try clear c4
    try clear c4b0
    obtain ⟨kq, x0_2, x1_2, rfl, rfl, HA, HJ2, ⟨mc2, rfl⟩⟩ := hcut
    cases kq with
    | zero => exact absurd HA.out (by simp [length_round.j0])
    | succ kj2 =>
      have H := HA.out
      clear HA
      simp only [length_round.j0] at H
      by_cases c5 : x1_2 = 0
      · rw [if_pos c5] at H
        exact absurd H (by simp)
      · rw [if_neg c5] at H
        have c5b0 : (x1_2 == 0) = false := beq_eq_false_iff_ne.mpr c5
        have c5b1 : (x1_2 != 0) = true := bne_iff_ne.mpr c5
        by_cases c6 : (wrap64 (2 * (Int.tmod x0_2 x1_2))) ≥ x1_2
        · rw [if_pos c6] at H
          have c6b0 : decide (x1_2 ≤ (wrap64 (2 * (Int.tmod x0_2 x1_2)))) = true := decide_eq_true c6
          clear c6
          obtain rfl := Option.some.inj H
          go_wp2
          repeat (go_quiet (fail); try go_wp2)
          go_ret
          exact ⟨by first | rfl | (simp; done) | (simp [*]; done), by repeat (first | exact Drawn0.refl _ | apply Drawn0.step)⟩
        · rw [if_neg c6] at H
          have c6b0 : decide (x1_2 ≤ (wrap64 (2 * (Int.tmod x0_2 x1_2)))) = false := decide_eq_false c6
          clear c6
          by_cases c7 : (wrap64 ((-2) * (Int.tmod x0_2 x1_2))) ≥ x1_2
          · rw [if_pos c7] at H
            have c7b0 : decide (x1_2 ≤ (wrap64 ((-2) * (Int.tmod x0_2 x1_2)))) = true := decide_eq_true c7
            clear c7
            obtain rfl := Option.some.inj H
            go_wp2
            repeat (go_quiet (fail); try go_wp2)
            go_ret
            exact ⟨by first | rfl | (simp; done) | (simp [*]; done), by repeat (first | exact Drawn0.refl _ | apply Drawn0.step)⟩
          · rw [if_neg c7] at H
            have c7b0 : decide (x1_2 ≤ (wrap64 ((-2) * (Int.tmod x0_2 x1_2)))) = false := decide_eq_false c7
            clear c7
            obtain rfl := Option.some.inj H
            go_wp2
            repeat (go_quiet (fail); try go_wp2)
            go_ret
            exact ⟨by first | rfl | (simp; done) | (simp [*]; done), by repeat (first | exact Drawn0.refl _ | apply Drawn0.step)⟩
end Go.Proofs.YthdppkmmfjaiaaaGreatDoor.G
