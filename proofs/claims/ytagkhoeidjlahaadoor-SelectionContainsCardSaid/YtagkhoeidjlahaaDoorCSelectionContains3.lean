-- Written by pack.py, a program of this session: this session's texts and those that the kit's printer wrote for this claim, pruned to what the claim uses.
import Derived.Test.YtagkhoeidjlahaaDoorCSelectionContains2
import Derived.LoopIn
import Derived.LoopNIn
import Derived.Outline
import Derived.OwnWalkIn
import Derived.RangeFuncBound
import Derived.RangeFuncCalls
import Derived.RangeFuncLeaves
import Derived.RangeFuncNested
import Derived.Shelf.Abstract
import Derived.TacticsInMore
namespace Go.Proofs.YtagkhoeidjlahaaDoor.G
open Go.RowKit Go.Proofs.YtagkhoeidjlahaaDoorW.PrintWords Go.Proofs.YtagkhoeidjlahaaDoorW.PrintLast Go.Proofs.YtagkhoeidjlahaaDoorW.PrintMore
attribute [local go_sem] max2_int min2_int max_two min_two max_three min_three max_four min_four
set_option linter.unusedVariables false
set_option linter.unusedSimpArgs false
section poa
mutual

def cnt : S36 → Nat
  | ⟨_, _, _, l⟩ => 1 + cntL l
def cntL : List S36 → Nat
  | [] => 0
  | x :: l => cnt x + cntL l
end
theorem cnt_eq (x : S36) : cnt x = 1 + cntL x.f3 := by cases x; simp [cnt]
theorem cntL_mem : ∀ {l : List S36} {x : S36}, x ∈ l → cnt x ≤ cntL l
  | y :: l, x, h => by
    rw [cntL]
    rcases List.mem_cons.1 h with rfl | h
    · omega
    · have := cntL_mem h; omega
mutual

def posKids (p : List Int) (i : Int) : List S36 → List (List Int)
  | [] => [p ++ [i]]
  | x :: l => (p ++ [i]) :: (posItem p i x ++ posKids p (i + 1) l)
def posItem (p : List Int) (i : Int) : S36 → List (List Int)
  | ⟨_, _, _, l⟩ => posSlots p i 0 l
def posSlots (p : List Int) (i s : Int) : List S36 → List (List Int)
  | [] => []
  | y :: l => posSlot (p ++ [i, s]) y ++ posSlots p i (s + 1) l
def posSlot (p : List Int) : S36 → List (List Int)
  | ⟨_, _, _, l⟩ => posKids p 0 l
end
theorem posItem_eq (p : List Int) (i : Int) (x : S36) : posItem p i x = posSlots p i 0 x.f3 := by cases x; simp [posItem]
theorem posSlot_eq (p : List Int) (y : S36) : posSlot p y = posKids p 0 y.f3 := by cases y; simp [posSlot]
open Go.Shelf
attribute [local go_sem] Oper.semAt_some
def Keep (W W' : World) : Prop := W.heap.size ≤ W'.heap.size ∧ ∀ (k : Nat) (cells : Array Value) (t : Nat) (fr : Nat × Nat), W.heap[k]? = some (.cells cells t fr) → (t = 3 ∨ t = 36) → W'.heap[k]? = some (.cells cells t fr)
theorem Keep.refl (W : World) : Keep W W := ⟨Nat.le_refl _, fun _ _ _ _ h _ => h⟩
theorem Keep.trans {A B C : World} (h : Keep A B) (k : Keep B C) : Keep A C := ⟨Nat.le_trans h.1 k.1, fun i cs t fr hc ht => k.2 i cs t fr (h.2 i cs t fr hc ht) ht⟩
theorem Keep.below {A B : World} (h : Below A.heap.size A B) : Keep A B := ⟨h.size, fun i cs t fr hc _ => blk_below hc h⟩
theorem Keep.R {W W' : World} {base : Nat} {ok : Nat → Prop} {v : Value} {xs : List Int} (hk : Keep W W') (h : Kd.R (Kd.int .i64) 3 W base ok v xs) : Kd.R (Kd.int .i64) 3 W' base ok v xs := by
  refine Kd.R_mono (Kd.R_step (Kd.R_bound h) fun k hok _ => ?_) (fun k hk => hk.1)
  obtain ⟨_, _, _, q, hq, cells, hc⟩ := hok
  have : q = 3 := by simpa [Kd.int, Kd.scalar] using hq
  subst this
  rw [hc, hk.2 _ _ _ _ hc (.inl rfl)]
structure Yl (l N : Nat) (w0 : World) (J : List (List Int) → World → Prop) : Prop where
  below : ∀ {pre : List (List Int)} {W : World}, J pre W → Below w0.heap.size w0 W
  step : ∀ {pre : List (List Int)} {W W' : World}, J pre W → Below W.heap.size W W' → J pre W'
  yield : ∀ (m : Nat) (pre : List (List Int)) (xs : List Int) (v : Value) (W : World), J pre W → pre.length < N → Kd.R (Kd.int .i64) 3 W w0.heap.size (fun _ => True) v xs →
    YieldAt Fence.wide m Tryd.prog l #[v] W fun e W' => e = .returned (.bool true) ∧ J (pre ++ [xs]) W' ∧ Keep W W'
theorem posKids_length : ∀ (p : List Int) (i : Int) (l : List S36), 1 ≤ (posKids p i l).length := fun p i l => by cases l <;> simp [posKids]
theorem yield_below {wr w2 w3 : World} {v2 : Value} {t : List Int} {o : Obj} (hb2 : Below wr.heap.size wr w2) (ho2 : Kd.R (Kd.int .i64) 3 w2 wr.heap.size (fun _ => True) v2 t) (hg3 : (w2.alloc o).grownBy w3 v2.ownBlock) : Below wr.heap.size wr w3 :=
  pw_below_grown (below_alloc hb2 o) v2.ownBlock (by have := hb2.size; simp; omega) hg3 (fun k hk => Kd.R_base ho2 k hk)
theorem yield_row {w3 : World} {base b0 n : Nat} {v3 : Value} {t : List Int} {x : Int} (h : w3.ownsRow base 3 1 v3 n (encs (Value.int .i64) t ++ [.int .i64 x])) (hb : b0 ≤ base) : Kd.R (Kd.int .i64) 3 w3 b0 (fun _ => True) v3 (t ++ [x]) := by
  have hl : n = (t ++ [x]).length := by have := h.1; simp [encs] at this; simp; omega
  subst hl
  exact Kd.R_lower (Kd.R_of_own (by simpa [encs] using h) (fun _ _ => trivial)) hb
def walk10.T : Bool × List (List Nat × List Nat) := (true, [([], []), ([], []), ([1], [1]), ([], []), ([], []), ([3, 4], [3, 4]), ([2, 5, 2], [2, 5]), ([], []), ([0, 6, 7, 6], [0, 6, 7]), ([8], [8])])
def walk10.B : List Nat := [0, 0, 2, 0, 0, 24, 62, 0, 255, 511]
theorem walk10.tab : rtab .any (opsOf Tryd.f103 10) = walk10.T := by kernel_rfl
theorem walk10.bits : waitsOk walk10.T.2 walk10.B = true := by kernel_rfl
set_option maxHeartbeats 4000000 in
set_option maxRecDepth 100000 in
theorem walk_calls {l N : Nat} {w0 : World} {J : List (List Int) → World → Prop} (Y : Yl l N w0 J) (hN : N ≤ 1000000) : ∀ (sz : Nat) (kids : List S36), cntL kids ≤ sz → ∀ (k0 : Int) (s0 : ByteArray) (c0 : Int) (A : Option Addr) (c : Nat) (vp : Value) (path : List Int) (pre : List (List Int)) (W : World),
    Kd.C k36 w0 A kids.length kids → kids.length ≤ c → Kd.R (Kd.int .i64) 3 W w0.heap.size (fun _ => True) vp path → J pre W → pre.length + (posKids path 0 kids).length ≤ N → path.length + 2 * sz ≤ 1000000 →
    Calls Tryd.prog 103 #[.agg #[.int .i64 k0, .string s0, .int .i64 c0, .slice A kids.length c], vp, .func (.yield l) #[] #[]] W fun e W' => e = .returned (.bool true) ∧ J (pre ++ posKids path 0 kids) W' ∧ Keep W W' := by
  intro sz
  induction sz using Nat.strongRecOn with
  | _ sz ih =>
  intro kids hsz k0 s0 c0 A c vp path pre W hC hc hp hJ hNl hpl
  have hu36 := Tryd.underlying36
  have hm := hC.2.1
  have HR := Aside0.mk hC
  have HC := Aside0.mk hc
  have HP := Aside0.mk hp
  have HJ := Aside0.mk hJ
  have HN := Aside0.mk hNl
  clear hC hc hp hJ hNl
  refine (callsIn_wide (n := 3)).1 (callsIn_of_wp Tryd.func103 rfl trivial ?_ rfl)
  simp only [Tryd.ntmps103, List.size_toArray, List.length_cons, List.length_nil, Nat.reduceAdd, Nat.reduceSub, Array.replicate_succ, Array.replicate_zero, List.push_toArray, List.append_toArray, List.nil_append, List.cons_append]
  obtain ⟨A1, c1, rfl, hc1, hC1⟩ := Kd.R_reads HP.out
  have HC1 := Aside0.mk hc1
  clear hc1 hC1
  have HJ0 := Aside0.mk (Y.step HJ.out (below_alloc (Below.refl W.heap.size W) (.cells #[.int .i64 k0, .string s0, .int .i64 c0, .slice A kids.length c] 36)))
  have HX0 := Aside0.mk (blk_new W (.cells #[.int .i64 k0, .string s0, .int .i64 c0, .slice A kids.length c] 36))
  have HP0 := Aside0.mk (Kd.R_alloc HP.out (.cells #[.int .i64 k0, .string s0, .int .i64 c0, .slice A kids.length c] 36))
  have HK0 := Aside0.mk (Keep.below (below_alloc (Below.refl W.heap.size W) (.cells #[.int .i64 k0, .string s0, .int .i64 c0, .slice A kids.length c] 36)))
  gi_wp2
  gi_loopw [7] (fun v7 wr => ∃ (i : Nat) (dn : List (List Int)), v7 = .int .i64 i ∧ Aside0 (i ≤ kids.length) ∧ Aside0 (dn ++ posKids path i (kids.drop i) = posKids path 0 kids) ∧ Aside0 (J (pre ++ dn) wr) ∧ Aside0 (Keep W wr) ∧ Aside0 (wr.heap[W.heap.size]? = some (.cells #[.int .i64 k0, .string s0, .int .i64 c0, .slice A kids.length c] 36 (0, 0))) ∧ Aside0 (Kd.R (Kd.int .i64) 3 wr w0.heap.size (fun _ => True) (.slice A1 path.length c1) path)) (fun v7 _ => kids.length + 1 - (intOf v7).toNat)
  case atStart => exact ⟨0, [], rfl, ⟨Nat.zero_le _⟩, ⟨by simp⟩, ⟨by simpa using HJ0.out⟩, HK0, HX0, HP0⟩
  case round =>
    obtain ⟨i, dn, rfl, HI, HE, HJi, HKi, HXi, HPi⟩ := hrel
    clear HJ0 HX0 HP0 HK0 HJ
    have hi := HI.out
    have hb1 : decide ((i : Int) ≤ (kids.length : Int)) = true := decide_eq_true (by omega)
    have qx3 : wr.cell? ⟨W.heap.size, 3, none⟩ = some (.slice A kids.length c) := (blk_cell HXi.out 3).trans rfl
    have hC1 := Kd.R_reads' HPi.out
    have HC1r := Aside0.mk hC1.2.2
    clear hC1
    have hlp : path.length < 17592186044416 := by omega
    obtain ⟨i0, hi0, hz0, hz1, hz2⟩ := info_parts info3
    have hlen : (pre ++ dn).length < N := by
      have h1 := congrArg List.length HE.out
      have h2 := posKids_length path i (kids.drop i)
      have h3 := HN.out
      simp only [List.length_append] at h1 ⊢
      omega
    by_cases hlast : i = kids.length
    · have hd2 : decide ((i : Int) = (kids.length : Int)) = true := decide_eq_true (by omega)
      have hd3 : ((i : Int) == (kids.length : Int)) = true := by rw [beq_iff_eq]; omega
      have HLast := Aside0.mk hlast
      clear hlast
      gi_wp2_with (first | ((refine ⟨trivial, ?_⟩); gi_at_call 81; refine (callsIn_wide.2 (slices_Clone_int_int.calls A1 c1 path path _ HC1r.out HC1.out (by simp [slices_Clone_int_int.f, hlp]))).mono ?_; rintro e w2 ⟨v2, rfl, ho2, hb2⟩; have HO2 := Aside0.mk ho2; have HB2 := Aside0.mk hb2; have OW2 := Aside0.mk (Kd.own_of_R ho2); have hz2' := hb2.size; clear ho2 hb2) | (gi_at_builtin; refine wpListIn_append_own _ rfl (.tmp 19) (.tmp 21) 26 rfl wr.heap.size 3 i0 (.int .i64 0) 1 8 Tryd.underlying26 hi0 hz0 hz1 hz2 rfl (by decide) v2 path.length (encs (Value.int .i64) path) rfl (OW2.out.alloc _) ⟨w2.heap.size, 0, none⟩ 1 1 [.int .i64 i] rfl rfl ?ac1 ?ac2 ?ac3 ?ac4 ?ac5 ?_; (case ac1 => exact cell_one_new _ _ _); (case ac2 => simp [Value.oneCell']); (case ac3 => unfold maxLen; omega); (case ac4 => omega); (case ac5 => simp; omega); intro v3 w3 hown3 hg3 _; have hB3 := yield_below (HB2.out) (HO2.out) hg3; have hR3 := yield_row hown3 (Nat.le_trans (Y.below HJi.out).size (Nat.le_refl _)); obtain ⟨fn, tmps, assign, body, hy, hRd⟩ := Y.yield 2 (pre ++ dn) (path ++ [(i : Int)]) v3 w3 (Y.step HJi.out hB3) hlen hR3; have HB3 := Aside0.mk hB3; have HRd := Aside0.mk hRd; clear hown3 hg3 hB3 hR3 hRd) | (refine HRd.out.mono ?_; rintro e w4 ⟨rfl, hj4, hk4⟩; have HJ4 := Aside0.mk hj4; have HK4 := Aside0.mk hk4; have HX4 := Aside0.mk (hk4.2 _ _ _ _ (blk_below HXi.out HB3.out) (.inr rfl)); have qx4 : w4.cell? ⟨W.heap.size, 3, none⟩ = some (.slice A kids.length c) := (blk_cell HX4.out 3).trans rfl; clear hj4 hk4 hy))
      all_goals (go_ret; refine ⟨rfl, ?_, HKi.out.trans ((Keep.below HB3.out).trans HK4.out)⟩; have hE := HE.out; rw [HLast.out, List.drop_length, posKids, ← HLast.out] at hE; rw [← hE, ← List.append_assoc]; exact HJ4.out)
    · have hi2 : i < kids.length := by omega
      have hd2 : decide ((i : Int) = (kids.length : Int)) = false := decide_eq_false (by omega)
      have hd3 : ((i : Int) == (kids.length : Int)) = false := beq_eq_false_iff_ne.2 (by omega)
      obtain ⟨ad, A3, c3, e, hx0, hx1, hx2, hx3, hl3, hi3⟩ := at_T36 HR.out (i : Int) (by omega) (by omega)
      simp only [Int.toNat_natCast] at hx0 hx1 hx2 hx3
      obtain ⟨y, hy⟩ : ∃ y, y = rd_T36 kids (i : Int) := ⟨_, rfl⟩
      rw [← hy] at hx0 hx1 hx2 hx3 hl3 hi3
      have hd : kids.drop i = y :: kids.drop (i + 1) := by rw [List.drop_eq_getElem_cons hi2, hy]; simp [rd_T36, hi2]
      have HY := Aside0.mk hd
      have HR3 := Aside0.mk hi3
      have HC3 := Aside0.mk hl3
      clear hy hd hi3 hl3
      subst e
      gi_wp2_with (first | ((refine ⟨trivial, ?_⟩); gi_at_call 81; refine (callsIn_wide.2 (slices_Clone_int_int.calls A1 c1 path path _ HC1r.out HC1.out (by simp [slices_Clone_int_int.f, hlp]))).mono ?_; rintro e w2 ⟨v2, rfl, ho2, hb2⟩; have HO2 := Aside0.mk ho2; have HB2 := Aside0.mk hb2; have OW2 := Aside0.mk (Kd.own_of_R ho2); have hz2' := hb2.size; clear ho2 hb2) | (gi_at_builtin; refine wpListIn_append_own _ rfl (.tmp 19) (.tmp 21) 26 rfl wr.heap.size 3 i0 (.int .i64 0) 1 8 Tryd.underlying26 hi0 hz0 hz1 hz2 rfl (by decide) v2 path.length (encs (Value.int .i64) path) rfl (OW2.out.alloc _) ⟨w2.heap.size, 0, none⟩ 1 1 [.int .i64 i] rfl rfl ?ac1 ?ac2 ?ac3 ?ac4 ?ac5 ?_; (case ac1 => exact cell_one_new _ _ _); (case ac2 => simp [Value.oneCell']); (case ac3 => unfold maxLen; omega); (case ac4 => omega); (case ac5 => simp; omega); intro v3 w3 hown3 hg3 _; have hB3 := yield_below (HB2.out) (HO2.out) hg3; have hR3 := yield_row hown3 (Nat.le_trans (Y.below HJi.out).size (Nat.le_refl _)); obtain ⟨fn, tmps, assign, body, hy, hRd⟩ := Y.yield 2 (pre ++ dn) (path ++ [(i : Int)]) v3 w3 (Y.step HJi.out hB3) hlen hR3; have HB3 := Aside0.mk hB3; have HRd := Aside0.mk hRd; clear hown3 hg3 hB3 hR3 hRd) | (refine HRd.out.mono ?_; rintro e w4 ⟨rfl, hj4, hk4⟩; have HJ4 := Aside0.mk hj4; have HK4 := Aside0.mk hk4; have HX4 := Aside0.mk (hk4.2 _ _ _ _ (blk_below HXi.out HB3.out) (.inr rfl)); have qx4 : w4.cell? ⟨W.heap.size, 3, none⟩ = some (.slice (some ad) kids.length c) := (blk_cell HX4.out 3).trans rfl; clear hj4 hk4 hy; (have hbw := Y.below HJ4.out; have hy0 := (hbw.cell (World.block_lt_of_cell? w0 _ hx0)).trans hx0; have hy3 := (hbw.cell (World.block_lt_of_cell? w0 _ hx3)).trans hx3; clear hbw)))
      have HKb := Aside0.mk ((Keep.below HB3.out).trans HK4.out)
      have HP4 := Aside0.mk (Keep.R HKb.out HPi.out)
      have HKW := Aside0.mk (HKi.out.trans HKb.out)
      have hm3 := HR3.out.2.1
      have HLast := Aside0.mk hlast
      clear HKb HKi HB3 HK4 HPi HRd HO2 HB2 OW2 hz2' hlast HJi HXi qx3 hb1 hd2 hd3
      gi_loopw [37] (fun v37 wt => ∃ (s : Nat) (d2 : List (List Int)), v37 = .int .i64 s ∧ Aside0 (s ≤ y.f3.length) ∧ Aside0 (d2 ++ posSlots path i s (y.f3.drop s) = posItem path i y) ∧ Aside0 (J (pre ++ dn ++ [path ++ [(i : Int)]] ++ d2) wt) ∧ Aside0 (Keep W wt) ∧ Aside0 (wt.heap[W.heap.size]? = some (.cells #[.int .i64 k0, .string s0, .int .i64 c0, .slice (some ad) kids.length c] 36 (0, 0))) ∧ Aside0 (Kd.R (Kd.int .i64) 3 wt w0.heap.size (fun _ => True) (.slice A1 path.length c1) path)) (fun v37 _ => y.f3.length + 1 - (intOf v37).toNat)
      case atStart => exact ⟨0, [], rfl, ⟨Nat.zero_le _⟩, ⟨by simp [posItem_eq]⟩, ⟨by simpa using HJ4.out⟩, HKW, HX4, HP4⟩
      case round =>
        obtain ⟨s, d2, rfl, HS, HD, HJs, HKs, HXs, HPs⟩ := hrel
        clear HJ4 HKW HX4 HP4
        have hs := HS.out
        by_cases hsl : s = y.f3.length
        · have hd4 : decide ((s : Int) < (y.f3.length : Int)) = false := decide_eq_false (by omega)
          have hd4n : decide (s < y.f3.length) = false := decide_eq_false (by omega)
          have HSl := Aside0.mk hsl
          clear hsl
          gi_wp2
          all_goals (refine ⟨⟨i + 1, dn ++ [path ++ [(i : Int)]] ++ d2, by push_cast; rfl, ⟨by omega⟩, ⟨?_⟩, ⟨by simpa using HJs.out⟩, HKs, HXs, HPs⟩, ?_⟩; (have h1 := HD.out; rw [HSl.out, List.drop_length, posSlots, List.append_nil] at h1; have h2 := HE.out; rw [HY.out, posKids] at h2; rw [h1, ← h2]; push_cast; simp); (simp [intOf]; omega))
        · have hd4 : decide ((s : Int) < (y.f3.length : Int)) = true := decide_eq_true (by omega)
          have hd4n : decide (s < y.f3.length) = true := decide_eq_true (by omega)
          have hs2 : s < y.f3.length := by omega
          clear hsl
          obtain ⟨ad5, A5, c5, e5, hx50, hx51, hx52, hx53, hl5, hi5⟩ := at_T36 HR3.out (s : Int) (by omega) (by omega)
          simp only [Int.toNat_natCast] at hx50 hx51 hx52 hx53
          obtain ⟨z, hz⟩ : ∃ z, z = rd_T36 y.f3 (s : Int) := ⟨_, rfl⟩
          rw [← hz] at hx50 hx51 hx52 hx53 hl5 hi5
          have hd5 : y.f3.drop s = z :: y.f3.drop (s + 1) := by rw [List.drop_eq_getElem_cons hs2, hz]; simp [rd_T36, hs2]
          have HZ := Aside0.mk hd5
          have HR5 := Aside0.mk hi5
          have HC5 := Aside0.mk hl5
          clear hz hd5 hi5 hl5
          subst e5
          have hbw := Y.below HJs.out
          replace hx50 := (hbw.cell (World.block_lt_of_cell? w0 _ hx50)).trans hx50
          replace hx51 := (hbw.cell (World.block_lt_of_cell? w0 _ hx51)).trans hx51
          replace hx52 := (hbw.cell (World.block_lt_of_cell? w0 _ hx52)).trans hx52
          replace hx53 := (hbw.cell (World.block_lt_of_cell? w0 _ hx53)).trans hx53
          have HBw := Aside0.mk hbw
          clear hbw
          gi_wp2_with fail
          have HBb := Aside0.mk (below_drew1 (below_alloc (Below.refl wr.heap.size wr) (.cells #[.int .i64 z.f0, .string z.f1, .int .i64 z.f2, .slice A5 z.f3.length c5] 36)))
          have BK := Aside0.mk (blk_drew (blk_new wr (.cells #[.int .i64 z.f0, .string z.f1, .int .i64 z.f2, .slice A5 z.f3.length c5] 36)))
          have hlz := cnt_eq z
          have hly := cntL_mem (l := y.f3) (x := z) (List.mem_of_mem_drop (i := s) (by rw [HZ.out]; simp))
          have hlk := cntL_mem (l := kids) (x := y) (List.mem_of_mem_drop (i := i) (by rw [HY.out]; simp))
          have hcy := cnt_eq y
          have hltz : cntL z.f3 < sz := by omega
          have HLT := Aside0.mk hltz
          have HPL := Aside0.mk (show path.length + 2 + 2 * cntL z.f3 ≤ 1000000 by omega)
          clear hlz hly hlk hcy hltz hx50 hx51 hx52 hx53 hx0 hx1 hx2 hx3 hy0 hy3 qx4
          refine (wpIn_wide).2 ?_
          refine start_ (n := 10) (S := fun w' => w'.cell? ⟨wr.heap.size, 0, none⟩ = some (.int .i64 z.f0) ∧ w'.cell? ⟨wr.heap.size, 1, none⟩ = some (.string z.f1) ∧ w'.cell? ⟨wr.heap.size, 2, none⟩ = some (.int .i64 z.f2) ∧ w'.cell? ⟨wr.heap.size, 3, none⟩ = some (.slice A5 z.f3.length c5)) (ds := []) #[false, false, false, false, false, false, false, false, false, false] (by kernel_rfl) rfl rfl ⟨(blk_cell BK.out 0).trans rfl, (blk_cell BK.out 1).trans rfl, (blk_cell BK.out 2).trans rfl, (blk_cell BK.out 3).trans rfl⟩ (fun hHeld => ?_); refine with_tabW walk10.tab walk10.bits (fun HT_ HW_ => ?_)
          generalize (wr.alloc (.cells #[.int .i64 z.f0, .string z.f1, .int .i64 z.f2, .slice A5 z.f3.length c5] 36)).drew = wb at HBb BK hHeld ⊢
          have HJb := Aside0.mk (Y.step HJs.out HBb.out)
          have HPb := Aside0.mk (Keep.R (Keep.below HBb.out) HPs.out)
          have HCb := Aside0.mk (Kd.R_reads' HPb.out).2.2
          have HB := Aside0.mk (Below.refl wb.heap.size wb)
          obtain ⟨q2, hq2⟩ : ∃ q : List Int, q = [(i : Int), (s : Int)] := ⟨_, rfl⟩
          have HQ := Aside0.mk hq2
          clear hq2
          refine pure_ (i := 1) (N := some 43) (v := ?_) (a' := ?_) #[false, true, false, false, false, false, false, false, false, false] rfl rfl (any_of HT_.out (by kernel_rfl)) (fun _ _ _ h => h) (Or.inl ⟨by rfl, ?_⟩) ?_ ?_
          rotate_left
          · intro w'
            go_simp
            with_reducible rfl
          rotate_left
          · simp only [Act.put, List.setIfInBounds_toArray, List.set_cons_zero, List.set_cons_succ, i64_w, i32_w]
            rfl
          refine pure_ (i := 3) (N := some 45) (v := ?_) (a' := ?_) #[false, true, false, true, false, false, false, false, false, false] rfl rfl (any_of HT_.out (by kernel_rfl)) (fun _ _ _ h => h) (Or.inl ⟨by rfl, ?_⟩) ?_ ?_
          rotate_left
          · intro w'
            go_simp
            with_reducible rfl
          rotate_left
          · simp only [Act.put, List.setIfInBounds_toArray, List.set_cons_zero, List.set_cons_succ, i64_w, i32_w]
            rfl
          refine pure_ (i := 4) (N := some 46) (v := ?_) (a' := ?_) #[false, true, false, true, true, false, false, false, false, false] rfl rfl (any_of HT_.out (by kernel_rfl)) (fun _ _ _ h => h) (Or.inl ⟨by rfl, ?_⟩) ?_ ?_
          rotate_left
          · intro w'
            go_simp
            with_reducible rfl
          rotate_left
          · simp only [Act.put, List.setIfInBounds_toArray, List.set_cons_zero, List.set_cons_succ, i64_w, i32_w]
            rfl
          refine pure_ (i := 7) (N := some 49) (v := ?_) (a' := ?_) #[false, true, false, true, true, false, false, true, false, false] rfl rfl (any_of HT_.out (by kernel_rfl)) (fun _ _ _ h => h) (Or.inl ⟨by rfl, ?_⟩) ?_ ?_
          rotate_left
          · intro w'
            go_simp
            with_reducible rfl
          rotate_left
          · simp only [Act.put, List.setIfInBounds_toArray, List.set_cons_zero, List.set_cons_succ, i64_w, i32_w]
            rfl
          refine take_ (i := 0) (N := some 42) (v := ?_) (a' := ?_) #[true, true, false, true, true, false, false, true, false, false] rfl rfl (take_ofW HT_.out HW_.out (by kernel_rfl)) (fun _ _ _ h => h) (Or.inl ⟨by rfl, ?_⟩) hHeld ?_ ?_
          rotate_left
          · rintro w' ⟨s0, s1, s2, s3⟩
            go_simp
            with_reducible rfl
          rotate_left
          · simp only [Act.put, List.setIfInBounds_toArray, List.set_cons_zero, List.set_cons_succ, i64_w, i32_w]
            rfl
          refine join_ (σ := Value × Value) 3 #[true, true, true, true, true, true, false, true, false, false] (fun s_ => [(44, s_.1), (47, s_.2)]) (fun s_ w' => (w'.cell? ⟨wr.heap.size, 0, none⟩ = some (.int .i64 z.f0) ∧ w'.cell? ⟨wr.heap.size, 1, none⟩ = some (.string z.f1) ∧ w'.cell? ⟨wr.heap.size, 2, none⟩ = some (.int .i64 z.f2) ∧ w'.cell? ⟨wr.heap.size, 3, none⟩ = some (.slice A5 z.f3.length c5)) ∧ (Kd.R (Kd.int .i64) 3 w' wb.heap.size (fun k_ => some k_ ≠ (s_.2 : Value).ownBlock) s_.1 path) ∧ (Kd.R (Kd.int .i64) 3 w' wb.heap.size (fun k_ => some k_ ≠ (s_.1 : Value).ownBlock) s_.2 q2) ∧ (w'.heap[wr.heap.size]? = some (.cells #[.int .i64 z.f0, .string z.f1, .int .i64 z.f2, .slice A5 z.f3.length c5] 36 (0, 0))) ∧ (Below wb.heap.size wb w')) ?_ ?_
          rotate_left
          · intro hCont
            refine two_ (i := 2) (j := 5) (Ni := some 44) (Nj := some 47) #[true, true, true, true, true, false, false, true, false, false] #[true, true, false, true, true, true, false, true, false, false] rfl rfl rfl rfl (two_of HT_.out (by kernel_rfl)) (by decide) (by decide) (fun K hK => ?_) (fun K hK => ?_)
            · skip
              refine goes_ Tryd.func81 (by kernel_rfl) rfl #[.slice A1 path.length c1] (by rfl) rfl rfl (by (try simp only [List.map_toArray, List.map_cons, List.map_nil]); first | done | rfl) ?_
              with_reducible refine (slices_Clone_int_int.calls _ _ path path _ ?side1 ?side2 (by simp [slices_Clone_int_int.f, hlp])).mono ?_
              (case side1 => repeat (first | exact (Kd.C_below HCb.out HB.out) | (with_reducible refine Kd.C_alloc ?_ _) | (with_reducible refine Kd.C_drewN ?_ _) | (with_reducible refine Kd.C_drew ?_)))
              (case side2 => exact HC1.out)
              rintro e w6 ⟨v819, rfl, ho0, hb⟩
              refine ⟨_, rfl, ?_⟩
              have n0_ := Aside0.mk (Kd.R_lower ho0 (below_size (by repeat (first | (with_reducible first | exact HB.out | apply below_alloc | apply pw_below_drewN | apply below_drew1) | exact HB.out))))
              have n1_ := Aside0.mk (blk_below (g := wr.heap.size) (o := .cells #[.int .i64 z.f0, .string z.f1, .int .i64 z.f2, .slice A5 z.f3.length c5] 36 (0, 0)) (by (with_reducible repeat (first | refine blk_drewN ?_ _ | refine blk_drew ?_ | refine blk_alloc ?_ _)); exact BK.out) hb)
              have n2_ := Aside0.mk (below_step (by repeat (first | (with_reducible first | exact HB.out | apply below_alloc | apply pw_below_drewN | apply below_drew1) | exact HB.out)) hb)
              clear BK HB
              have HO820 := n0_
              have BK := n1_
              have HB := n2_
              clear n0_ n1_ n2_
              clear hb ho0
              refine hK.out _ _ ⟨(blk_cell BK.out 0).trans rfl, (blk_cell BK.out 1).trans rfl, (blk_cell BK.out 2).trans rfl, (blk_cell BK.out 3).trans rfl⟩ (fun hHeld => ?_)
              clear hK K
              refine norm_ (a' := ?_) ?_ ?_
              rotate_left
              · show Act.put _ (some 44) _ = _
                simp only [Act.put, List.setIfInBounds_toArray, List.set_cons_zero, List.set_cons_succ, i64_w, i32_w]
                rfl
              refine one_ (i := 5) (N := some 47) #[true, true, true, true, true, true, false, true, false, false] rfl rfl (one_of HT_.out (by kernel_rfl)) (by decide) (fun K hK => ?_)
              refine Kd.R_lit_step (Kd.int .i64) _ 3 ?hg (N := 47) ?hd (xs := ([(i : Int), (s : Int)] : List Int)) (inner := [.int .i64 i, .int .i64 s]) (ok := fun _ => True) (okp := fun _ => True) ?hr ?hp (fun _ hk => hk) trivial (Below.refl _ _) (Nat.le_refl _) (by simp) ?_; (case hd => rfl); (case hg => rfl); (case hr => first | (go_simp; done) | (go_simp; rfl)); (case hp => exact (Reps.one (show Kd.M (Kd.int .i64) _ _ _ (i : Int) [.int .i64 i] from rfl) (Reps.one (show Kd.M (Kd.int .i64) _ _ _ (s : Int) [.int .i64 s] from rfl) (Reps.none _ _))))
              intro v822 w7 ho8 hb hg_ hnew_
              clear hg_ hnew_
              rw [← HQ.out] at ho8
              have m0_ := Aside0.mk (Kd.R_elder' (by (with_reducible repeat (first | apply Kd.R_alloc | apply Kd.R_drewN | apply Kd.R_drew)); exact HO820.out) (Kd.R_base ho8) hb)
              have n0_ := Aside0.mk (Kd.R_lower (Kd.R_new' ho8 (Kd.R_lt (by (with_reducible repeat (first | apply Kd.R_alloc | apply Kd.R_drewN | apply Kd.R_drew)); exact HO820.out))) (below_size (by repeat (first | (with_reducible first | exact HB.out | apply below_alloc | apply pw_below_drewN | apply below_drew1) | exact HB.out))))
              have n1_ := Aside0.mk (blk_below (g := wr.heap.size) (o := .cells #[.int .i64 z.f0, .string z.f1, .int .i64 z.f2, .slice A5 z.f3.length c5] 36 (0, 0)) (by (with_reducible repeat (first | refine blk_drewN ?_ _ | refine blk_drew ?_ | refine blk_alloc ?_ _)); exact BK.out) hb)
              have n2_ := Aside0.mk (below_step (by repeat (first | (with_reducible first | exact HB.out | apply below_alloc | apply pw_below_drewN | apply below_drew1) | exact HB.out)) hb)
              clear BK HB HO820
              have HO820 := m0_
              clear m0_
              have HO823 := n0_
              have BK := n1_
              have HB := n2_
              clear n0_ n1_ n2_
              clear hb ho8
              refine hK.out _ _ ⟨(blk_cell BK.out 0).trans rfl, (blk_cell BK.out 1).trans rfl, (blk_cell BK.out 2).trans rfl, (blk_cell BK.out 3).trans rfl⟩ (fun hHeld => ?_)
              clear hK K
              refine norm_ (a' := ?_) ?_ ?_
              rotate_left
              · show Act.put _ (some 47) _ = _
                simp only [Act.put, List.setIfInBounds_toArray, List.set_cons_zero, List.set_cons_succ, i64_w, i32_w]
                rfl
              exact norm_ (by simp only [putAll, Act.put, List.setIfInBounds_toArray, List.set_cons_zero, List.set_cons_succ]) (hCont (v819, v822) _ ⟨hHeld, (by (with_reducible repeat (first | apply Kd.R_alloc | apply Kd.R_drewN | apply Kd.R_drew)); exact Kd.R_mono HO820.out (fun _ hk => hk.2)), (by (with_reducible repeat (first | apply Kd.R_alloc | apply Kd.R_drewN | apply Kd.R_drew)); exact Kd.R_mono HO823.out (fun _ hk => hk.2)), (by (with_reducible repeat (first | refine blk_drewN ?_ _ | refine blk_drew ?_ | refine blk_alloc ?_ _)); exact BK.out), (by repeat (first | (with_reducible first | exact HB.out | apply below_alloc | apply pw_below_drewN | apply below_drew1) | exact HB.out))⟩)
            · skip
              refine Kd.R_lit_step (Kd.int .i64) _ 3 ?hg (N := 47) ?hd (xs := ([(i : Int), (s : Int)] : List Int)) (inner := [.int .i64 i, .int .i64 s]) (ok := fun _ => True) (okp := fun _ => True) ?hr ?hp (fun _ hk => hk) trivial (Below.refl _ _) (Nat.le_refl _) (by simp) ?_; (case hd => rfl); (case hg => rfl); (case hr => first | (go_simp; done) | (go_simp; rfl)); (case hp => exact (Reps.one (show Kd.M (Kd.int .i64) _ _ _ (i : Int) [.int .i64 i] from rfl) (Reps.one (show Kd.M (Kd.int .i64) _ _ _ (s : Int) [.int .i64 s] from rfl) (Reps.none _ _))))
              intro v822 w6 ho8 hb hg_ hnew_
              clear hg_ hnew_
              rw [← HQ.out] at ho8
              have n0_ := Aside0.mk (Kd.R_lower ho8 (below_size (by repeat (first | (with_reducible first | exact HB.out | apply below_alloc | apply pw_below_drewN | apply below_drew1) | exact HB.out))))
              have n1_ := Aside0.mk (blk_below (g := wr.heap.size) (o := .cells #[.int .i64 z.f0, .string z.f1, .int .i64 z.f2, .slice A5 z.f3.length c5] 36 (0, 0)) (by (with_reducible repeat (first | refine blk_drewN ?_ _ | refine blk_drew ?_ | refine blk_alloc ?_ _)); exact BK.out) hb)
              have n2_ := Aside0.mk (below_step (by repeat (first | (with_reducible first | exact HB.out | apply below_alloc | apply pw_below_drewN | apply below_drew1) | exact HB.out)) hb)
              clear BK HB
              have HO823 := n0_
              have BK := n1_
              have HB := n2_
              clear n0_ n1_ n2_
              clear hb ho8
              refine hK.out _ _ ⟨(blk_cell BK.out 0).trans rfl, (blk_cell BK.out 1).trans rfl, (blk_cell BK.out 2).trans rfl, (blk_cell BK.out 3).trans rfl⟩ (fun hHeld => ?_)
              clear hK K
              refine norm_ (a' := ?_) ?_ ?_
              rotate_left
              · show Act.put _ (some 47) _ = _
                simp only [Act.put, List.setIfInBounds_toArray, List.set_cons_zero, List.set_cons_succ, i64_w, i32_w]
                rfl
              refine one_ (i := 2) (N := some 44) #[true, true, true, true, true, true, false, true, false, false] rfl rfl (one_of HT_.out (by kernel_rfl)) (by decide) (fun K hK => ?_)
              refine goes_ Tryd.func81 (by kernel_rfl) rfl #[.slice A1 path.length c1] (by rfl) rfl rfl (by (try simp only [List.map_toArray, List.map_cons, List.map_nil]); first | done | rfl) ?_
              with_reducible refine (slices_Clone_int_int.calls _ _ path path _ ?side1 ?side2 (by simp [slices_Clone_int_int.f, hlp])).mono ?_
              (case side1 => repeat (first | exact (Kd.C_below HCb.out HB.out) | (with_reducible refine Kd.C_alloc ?_ _) | (with_reducible refine Kd.C_drewN ?_ _) | (with_reducible refine Kd.C_drew ?_)))
              (case side2 => exact HC1.out)
              rintro e w7 ⟨v819, rfl, ho0, hb⟩
              refine ⟨_, rfl, ?_⟩
              have m0_ := Aside0.mk (Kd.R_elder' (by (with_reducible repeat (first | apply Kd.R_alloc | apply Kd.R_drewN | apply Kd.R_drew)); exact HO823.out) (Kd.R_base ho0) hb)
              have n0_ := Aside0.mk (Kd.R_lower (Kd.R_new' ho0 (Kd.R_lt (by (with_reducible repeat (first | apply Kd.R_alloc | apply Kd.R_drewN | apply Kd.R_drew)); exact HO823.out))) (below_size (by repeat (first | (with_reducible first | exact HB.out | apply below_alloc | apply pw_below_drewN | apply below_drew1) | exact HB.out))))
              have n1_ := Aside0.mk (blk_below (g := wr.heap.size) (o := .cells #[.int .i64 z.f0, .string z.f1, .int .i64 z.f2, .slice A5 z.f3.length c5] 36 (0, 0)) (by (with_reducible repeat (first | refine blk_drewN ?_ _ | refine blk_drew ?_ | refine blk_alloc ?_ _)); exact BK.out) hb)
              have n2_ := Aside0.mk (below_step (by repeat (first | (with_reducible first | exact HB.out | apply below_alloc | apply pw_below_drewN | apply below_drew1) | exact HB.out)) hb)
              clear BK HB HO823
              have HO823 := m0_
              clear m0_
              have HO820 := n0_
              have BK := n1_
              have HB := n2_
              clear n0_ n1_ n2_
              clear hb ho0
              refine hK.out _ _ ⟨(blk_cell BK.out 0).trans rfl, (blk_cell BK.out 1).trans rfl, (blk_cell BK.out 2).trans rfl, (blk_cell BK.out 3).trans rfl⟩ (fun hHeld => ?_)
              clear hK K
              refine norm_ (a' := ?_) ?_ ?_
              rotate_left
              · show Act.put _ (some 44) _ = _
                simp only [Act.put, List.setIfInBounds_toArray, List.set_cons_zero, List.set_cons_succ, i64_w, i32_w]
                rfl
              exact norm_ (by simp only [putAll, Act.put, List.setIfInBounds_toArray, List.set_cons_zero, List.set_cons_succ]) (hCont (v819, v822) _ ⟨hHeld, (by (with_reducible repeat (first | apply Kd.R_alloc | apply Kd.R_drewN | apply Kd.R_drew)); exact Kd.R_mono HO820.out (fun _ hk => hk.2)), (by (with_reducible repeat (first | apply Kd.R_alloc | apply Kd.R_drewN | apply Kd.R_drew)); exact Kd.R_mono HO823.out (fun _ hk => hk.2)), (by (with_reducible repeat (first | refine blk_drewN ?_ _ | refine blk_drew ?_ | refine blk_alloc ?_ _)); exact BK.out), (by repeat (first | (with_reducible first | exact HB.out | apply below_alloc | apply pw_below_drewN | apply below_drew1) | exact HB.out))⟩)
          rintro ⟨v819, v822⟩ w9 ⟨hHeld, h0_, h1_, h2_, h3_⟩
          clear BK HB
          have HO820 : Aside0 (Kd.R (Kd.int .i64) 3 w9 wb.heap.size (fun k_ => some k_ ≠ (v822 : Value).ownBlock) v819 path) := ⟨h0_⟩
          have HO823 : Aside0 (Kd.R (Kd.int .i64) 3 w9 wb.heap.size (fun k_ => some k_ ≠ (v819 : Value).ownBlock) v822 q2) := ⟨h1_⟩
          have BK : Aside0 (w9.heap[wr.heap.size]? = some (.cells #[.int .i64 z.f0, .string z.f1, .int .i64 z.f2, .slice A5 z.f3.length c5] 36 (0, 0))) := ⟨h2_⟩
          have HB : Aside0 (Below wb.heap.size wb w9) := ⟨h3_⟩
          clear h0_ h1_ h2_ h3_
          obtain ⟨Ao11, co11, eo11⟩ := Kd.R_slice HO823.out
          (first | subst eo11 | (injection eo11 with f1_ f2_ f3_; have f4_ := f1_.symm; have f5_ := f3_.symm; clear f1_ f2_ f3_; subst f4_; subst f5_))
          refine norm_ (a' := ?_) ?_ ?_
          rotate_left
          · simp only [putAll, Act.put, List.setIfInBounds_toArray, List.set_cons_zero, List.set_cons_succ]
            rfl
          refine one_ (i := 6) (N := some 48) #[true, true, true, true, true, true, true, true, false, false] rfl rfl (one_of HT_.out (by kernel_rfl)) (by decide) (fun K hK => ?_)
          refine Kd.R_append_rows_step (Kd.int .i64) (w0 := wb) wb.heap.size (by rfl) (.tmp 44) (.tmp 47) 26 3 (.int .i64 0) 8 rfl Tryd.underlying26 info3 rfl (by decide) (by omega) v819 path q2 _ _ _ (fun k_ => some k_ ≠ (.slice Ao11 q2.length co11 : Value).ownBlock) (fun _ => False) rfl rfl ?aO ?aR (fun _ _ h => h) (fun _ h => h.elim) ?aF ?aB ?aS ?aL ?_
          (case aR => exact (Kd.R_reads' HO823.out).2.2)
          (case aB => exact HB.out)
          (case aF => exact (fun k_ hk => Kd.fresh' (Kd.R_lt HO823.out) k_ hk))
          (case aO => exact HO820.out)
          (case aS => exact below_size HB.out)
          (case aL => have h1 := HPL.out; rw [HQ.out]; simp; omega)
          intro v825 w10 ho hb hg hat
          have n0_ := Aside0.mk (blk_grown (g := wr.heap.size) (o := .cells #[.int .i64 z.f0, .string z.f1, .int .i64 z.f2, .slice A5 z.f3.length c5] 36 (0, 0)) BK.out hg (Kd.R_ne HO820.out BK.out (by decide)))
          clear BK HO823 HO820 HB
          have BK := n0_
          clear n0_ hg hat
          have HB := Aside0.mk hb
          have HB0 := Aside0.mk hb
          have HO826 := Aside0.mk (Kd.R_lower (Kd.R_mono (ok' := fun _ => True) ho (fun _ _ => trivial)) (below_size (below_step (Y.below HJb.out) (Below.refl _ _))))
          clear ho hb
          refine hK.out _ _ ⟨(blk_cell BK.out 0).trans rfl, (blk_cell BK.out 1).trans rfl, (blk_cell BK.out 2).trans rfl, (blk_cell BK.out 3).trans rfl⟩ (fun hHeld => ?_)
          clear hK K
          refine norm_ (a' := ?_) ?_ ?_
          rotate_left
          · show Act.put _ (some 48) _ = _
            simp only [Act.put, List.setIfInBounds_toArray, List.set_cons_zero, List.set_cons_succ, i64_w, i32_w]
            rfl
          refine one_ (i := 8) (N := some 50) #[true, true, true, true, true, true, true, true, true, false] rfl rfl (one_of HT_.out (by kernel_rfl)) (by decide) (fun K hK => ?_)
          refine goes_ Tryd.func103 (by kernel_rfl) rfl #[.agg #[.int .i64 z.f0, .string z.f1, .int .i64 z.f2, .slice A5 z.f3.length c5], v825, .func (.yield l) #[] #[]] (by rfl) rfl rfl (by (try simp only [List.map_toArray, List.map_cons, List.map_nil]); first | done | rfl) ?_
          have hlen2 : (pre ++ dn ++ [path ++ [(i : Int)]] ++ d2).length + (posKids (path ++ q2) 0 z.f3).length ≤ N := by
            have h1 := congrArg List.length HE.out
            have h2 := congrArg List.length HD.out
            have h3 := HN.out
            rw [HY.out, posKids] at h1
            rw [HZ.out, posSlots, posSlot_eq] at h2
            rw [HQ.out]
            simp only [List.length_append, List.length_cons, List.length_nil] at h1 h2 ⊢
            omega
          have hpl2 : (path ++ q2).length + 2 * cntL z.f3 ≤ 1000000 := by
            have h1 := HPL.out
            rw [HQ.out]
            simp only [List.length_append, List.length_cons, List.length_nil] at h1 ⊢
            omega
          refine (ih (cntL z.f3) HLT.out z.f3 (Nat.le_refl _) z.f0 z.f1 z.f2 A5 c5 v825 (path ++ q2) (pre ++ dn ++ [path ++ [(i : Int)]] ++ d2) w10 HR5.out HC5.out HO826.out (Y.step HJb.out HB0.out) hlen2 hpl2).mono ?_
          rintro e w11 ⟨rfl, hj, hkk⟩
          refine ⟨_, rfl, ?_⟩
          have n0_ := Aside0.mk (hkk.2 _ _ _ _ BK.out (.inr rfl))
          have HK11 := Aside0.mk ((Keep.below (A := wr) HBb.out).trans ((Keep.below HB0.out).trans hkk))
          have HJ11 := Aside0.mk hj
          clear BK HB HB0 HO826 hlen2 hpl2 hj hkk
          have BK := n0_
          clear n0_
          refine hK.out _ _ ⟨(blk_cell BK.out 0).trans rfl, (blk_cell BK.out 1).trans rfl, (blk_cell BK.out 2).trans rfl, (blk_cell BK.out 3).trans rfl⟩ (fun hHeld => ?_)
          clear hK K
          refine norm_ (a' := ?_) ?_ ?_
          rotate_left
          · show Act.put _ (some 50) _ = _
            simp only [Act.put, List.setIfInBounds_toArray, List.set_cons_zero, List.set_cons_succ, i64_w, i32_w]
            rfl
          refine pure_ (i := 9) (N := some 51) (v := ?_) (a' := ?_) #[true, true, true, true, true, true, true, true, true, true] rfl rfl (any_of HT_.out (by kernel_rfl)) (fun _ _ _ h => h) (Or.inl ⟨by rfl, ?_⟩) ?_ ?_
          rotate_left
          · intro w'
            go_simp
            with_reducible rfl
          rotate_left
          · simp only [Act.put, List.setIfInBounds_toArray, List.set_cons_zero, List.set_cons_succ, i64_w, i32_w]
            rfl
          refine done_ (done_of HT_.out (by kernel_rfl)) ?_
          have HX11 := Aside0.mk (HK11.out.2 _ _ _ _ HXs.out (.inr rfl))
          have HP11 := Aside0.mk (Keep.R HK11.out HPs.out)
          gi_wp2
          refine ⟨⟨s + 1, d2 ++ posKids (path ++ q2) 0 z.f3, by push_cast; rfl, ⟨by omega⟩, ⟨?_⟩, ⟨by simpa using HJ11.out⟩, ⟨HKs.out.trans HK11.out⟩, HX11, HP11⟩, ?_⟩
          · have h2 := HD.out
            rw [HZ.out, posSlots, posSlot_eq, ← HQ.out] at h2
            rw [← h2]
            push_cast
            simp
          · simp [intOf]
            omega
end poa
end Go.Proofs.YtagkhoeidjlahaaDoor.G
namespace Go.Proofs.YtagkhoeidjlahaaDoor.G
open Go.RowKit Go.Proofs.YtagkhoeidjlahaaDoorW.PrintWords Go.Proofs.YtagkhoeidjlahaaDoorW.PrintLast Go.Proofs.YtagkhoeidjlahaaDoorW.PrintMore
attribute [local go_sem] max2_int min2_int max_two min_two max_three min_three max_four min_four
set_option linter.unusedVariables false
set_option linter.unusedSimpArgs false
section poc
mutual
theorem posKids_len : ∀ (p : List Int) (i : Int) (l : List S36), (posKids p i l).length ≤ 1 + 2 * cntL l
  | p, i, [] => by simp [posKids]
  | p, i, x :: l => by
    have h1 := posItem_len p i x
    have h2 := posKids_len p (i + 1) l
    rw [posKids, cntL]
    simp only [List.length_cons, List.length_append]
    have : 1 ≤ cnt x := by cases x; simp [cnt]
    omega
theorem posItem_len : ∀ (p : List Int) (i : Int) (x : S36), (posItem p i x).length + 2 ≤ 2 * cnt x
  | p, i, ⟨_, _, _, l⟩ => by
    have h1 := posSlots_len p i 0 l
    rw [posItem, cnt]
    omega
theorem posSlots_len : ∀ (p : List Int) (i s : Int) (l : List S36), (posSlots p i s l).length ≤ 2 * cntL l
  | p, i, s, [] => by simp [posSlots]
  | p, i, s, y :: l => by
    have h1 := posSlot_len (p ++ [i, s]) y
    have h2 := posSlots_len p i (s + 1) l
    rw [posSlots, cntL]
    simp only [List.length_append]
    omega
theorem posSlot_len : ∀ (p : List Int) (y : S36), (posSlot p y).length ≤ 2 * cnt y
  | p, ⟨_, _, _, l⟩ => by
    have h1 := posKids_len p 0 l
    rw [posSlot, cnt]
    omega
end
theorem chkL_cnt {f : Int → S36 → Option (Bool × Int)} (hf : ∀ l x l', f l x = some (true, l') → 0 ≤ l' ∧ (cnt x : Int) ≤ l - l') (row : Bool) : ∀ (xs : List S36) (l l' : Int), 0 ≤ l → chkL f row xs l = some (true, l') → 0 ≤ l' ∧ (cntL xs : Int) ≤ l - l' := by
  intro xs
  induction xs with
  | nil =>
    intro l l' h0 h
    simp [chkL] at h
    simp [cntL]
    omega
  | cons y ys ih =>
    intro l l' h0 h
    rw [chkL] at h
    split at h
    · simp at h
    · obtain ⟨⟨b, l1⟩, h1, h2⟩ := Option.bind_eq_some_iff.mp h
      cases b with
      | false => simp at h2
      | true =>
        obtain ⟨h3, h4⟩ := hf _ _ _ h1
        obtain ⟨h5, h6⟩ := ih _ _ h3 (by simpa using h2)
        rw [cntL]
        push_cast
        omega
theorem chk_cnt (k : Nat) : ∀ (d : Nat) (l : Int) (x : S36) (l' : Int), chk k d l x = some (true, l') → 0 ≤ l' ∧ (cnt x : Int) ≤ l - l' := by
  intro d
  induction d with
  | zero => intro l x l' h; simp [chk] at h
  | succ d ih =>
    intro l x l' h
    rw [chk] at h
    split at h
    · simp at h
    · rename_i h0
      obtain ⟨b, h1, h2⟩ := Option.bind_eq_some_iff.mp h
      cases b with
      | false => simp at h2
      | true =>
        have h3 := chkL_cnt (fun l x l' => ih l x l') (x.f0 == 1) x.f3 (l - 1) l' (by omega) (by simpa using h2)
        rw [cnt_eq]
        push_cast
        omega
theorem positions_calls {a0 : Int} {a1 : ByteArray} {a2 : Int} {A : Option Addr} {c n : Nat} (W : World) :
    Calls Tryd.prog 74 #[.agg #[.int .i64 a0, .string a1, .int .i64 a2, .slice A n c]] W fun e W' => e = .returned (.func (.func 102) #[] #[.pointer (some ⟨W.heap.size, 0, none⟩)]) ∧ W' = W.alloc (.cells #[.int .i64 a0, .string a1, .int .i64 a2, .slice A n c] 36) := by
  have hu36 := Tryd.underlying36
  go_enter Tryd.func74, Tryd.ntmps74
  go_wp2
  go_ret
  exact ⟨rfl, rfl⟩
theorem collect_calls {f : Value} {W : World} {R : Value → World → Prop} (h : Calls Tryd.prog 101 #[.slice none 0 0, f] W fun e W' => ∃ v, e = .returned v ∧ R v W') :
    Calls Tryd.prog 73 #[f] W fun e W' => ∃ v, e = .returned v ∧ R v W' := by
  go_enter Tryd.func73, Tryd.ntmps73
  go_wp2_with fail
  refine h.mono ?_
  rintro e w2 ⟨v, rfl, hv⟩
  go_wp2
  go_ret
  exact ⟨_, rfl, hv⟩
end poc
end Go.Proofs.YtagkhoeidjlahaaDoor.G
namespace Go.Proofs.YtagkhoeidjlahaaDoor.G.Pure
open Go.Proofs.YtagkhoeidjlahaaDoorW.PrintWords Go.RowKit
set_option linter.unusedVariables false
set_option linter.unusedSimpArgs false
mutual
def formB : S36 → Bool
  | ⟨k, s, c, l⟩ => shp k s c l.length && formL (k == 1) l
def formL (row : Bool) : List S36 → Bool
  | [] => true
  | y :: l => !((y.f0 == 1) == row) && formB y && formL row l
end
mutual
def dep : S36 → Nat
  | ⟨_, _, _, l⟩ => 1 + depL l
def depL : List S36 → Nat
  | [] => 0
  | y :: l => max (dep y) (depL l)
end
theorem formB_eq (x : S36) : formB x = (shp x.f0 x.f1 x.f2 x.f3.length && formL (x.f0 == 1) x.f3) := by cases x; simp [formB]
theorem dep_eq (x : S36) : dep x = 1 + depL x.f3 := by cases x; simp [dep]
theorem ok_open {x : S36} (h : OkNode x) : x.f1.size ≤ M ∧ x.f3.length ≤ M ∧ ∀ y ∈ x.f3, OkNode y := by
  cases h with
  | mk x h0 h1 h2 hl h3 => exact ⟨h1, hl, h3⟩
theorem cnt_pos (x : S36) : 1 ≤ cnt x := by rw [cnt_eq]; omega
def validB (x : S36) : Bool := x.f0 == 1 && formB x && decide (cnt x ≤ 1000) && decide (dep x ≤ 24)
theorem chk_ev : ∀ (d : Nat) (x : S36) (l : Int), OkNode x → 0 ≤ l → l ≤ 1000000 → ∃ r, Ev (fun k => chk k d l x) r ∧ (r.1 = true → formB x = true ∧ (cnt x : Int) ≤ l ∧ dep x ≤ d ∧ r.2 = l - cnt x) ∧ (formB x = true ∧ (cnt x : Int) ≤ l ∧ dep x ≤ d → r.1 = true) := by
  intro d
  induction d with
  | zero =>
    intro x l hx h0 h1
    refine ⟨(false, l - 1), Ev.now _, fun h => by simp at h, fun h => ?_⟩
    have := dep_eq x
    omega
  | succ d ih =>
    intro x l hx h0 h1
    obtain ⟨o1, o2, o3⟩ := ok_open hx
    have loop : ∀ (ys : List S36) (q : Int), (∀ y ∈ ys, OkNode y) → 0 ≤ q → q ≤ 1000000 → ∃ r, Ev (fun k => chkL (chk k d) (x.f0 == 1) ys q) r ∧ (r.1 = true → formL (x.f0 == 1) ys = true ∧ (cntL ys : Int) ≤ q ∧ depL ys ≤ d ∧ r.2 = q - cntL ys) ∧ (formL (x.f0 == 1) ys = true ∧ (cntL ys : Int) ≤ q ∧ depL ys ≤ d → r.1 = true) := by
      intro ys
      induction ys with
      | nil =>
        intro q _ hq hq1
        refine ⟨(true, q), ?_, fun _ => ⟨rfl, by simp [cntL]; omega, by simp [depL], by simp [cntL]⟩, fun _ => rfl⟩
        simp only [chkL]; exact Ev.now _
      | cons y ys ihy =>
        intro q hy hq hq1
        simp only [chkL, formL, cntL, depL]
        by_cases hr : (y.f0 == 1) == (x.f0 == 1)
        · refine ⟨(false, q), ?_, fun h => by simp at h, fun h => ?_⟩
          · simp only [hr, if_true]; exact Ev.now _
          · rw [hr] at h; simp at h
        · rw [Bool.not_eq_true] at hr
          simp only [hr, Bool.false_eq_true, if_false, Bool.not_false, Bool.true_and]
          obtain ⟨⟨b, q2⟩, e1, e2, e3⟩ := ih y q (hy y (by simp)) hq hq1
          cases b with
          | false =>
            refine ⟨(false, q2), ev_bind e1 (Ev.now _), fun h => by simp at h, fun h => ?_⟩
            obtain ⟨g1, g2, g3⟩ := h
            rw [Bool.and_eq_true] at g1
            have := e3 ⟨g1.1, by push_cast at g2; omega, by omega⟩
            simp at this
          | true =>
            obtain ⟨f1, f2, f3, f4⟩ := e2 rfl
            simp only at f4
            have := cnt_pos y
            obtain ⟨r, g1, g2, g3⟩ := ihy q2 (fun z hz => hy z (by simp [hz])) (by omega) (by omega)
            refine ⟨r, ev_bind e1 g1, fun h => ?_, fun h => ?_⟩
            · obtain ⟨i1, i2, i3, i4⟩ := g2 h
              refine ⟨by rw [f1, i1]; rfl, by push_cast; omega, by omega, by push_cast; omega⟩
            · obtain ⟨i1, i2, i3⟩ := h
              rw [Bool.and_eq_true] at i1
              exact g3 ⟨i1.2, by push_cast at i2; omega, by omega⟩
    have hcp := cnt_pos x
    simp only [chk]
    by_cases hl : l - 1 < 0
    · refine ⟨(false, l - 1), by simp only [hl, if_true]; exact Ev.now _, fun h => by simp at h, fun h => by omega⟩
    · simp only [hl, if_false]
      rw [formB_eq, cnt_eq, dep_eq]
      have hs := shape_ev x.f0 x.f1 x.f2 x.f3.length o1
      cases hsh : shp x.f0 x.f1 x.f2 x.f3.length with
      | false =>
        rw [hsh] at hs
        refine ⟨(false, l - 1), ev_bind hs (Ev.now _), fun h => by simp at h, fun h => by simp at h⟩
      | true =>
        rw [hsh] at hs
        obtain ⟨r, g1, g2, g3⟩ := loop x.f3 (l - 1) o3 (by omega) (by omega)
        refine ⟨r, ev_bind hs g1, fun h => ?_, fun h => ?_⟩
        · obtain ⟨i1, i2, i3, i4⟩ := g2 h
          refine ⟨by rw [i1]; rfl, by push_cast; omega, by omega, by push_cast; omega⟩
        · obtain ⟨i1, i2, i3⟩ := h
          rw [Bool.true_and] at i1
          exact g3 ⟨i1, by push_cast at i2; omega, by omega⟩
theorem node_eta (x : S36) : (⟨x.f0, x.f1, x.f2, x.f3⟩ : S36) = x := by cases x; rfl
theorem nValid_ev (x : S36) (hx : OkNode x) : Ev (fun k => node_Valid.f k x.f0 x.f1 x.f2 x.f3) (validB x) := by
  unfold node_Valid.f validB
  simp only [node_eta]
  refine ev_if (fun h => ?_) fun h => ev_now ?_
  · obtain ⟨r, e1, e2, e3⟩ := chk_ev 24 x 1000 hx (by omega) (by omega)
    refine ev_bind (f := fun _ r => some r.1) e1 (ev_now ?_)
    rw [h]
    rw [Bool.eq_iff_iff]
    simp only [beq_self_eq_true, Bool.true_and, Bool.and_eq_true, decide_eq_true_eq]
    constructor
    · intro hr; obtain ⟨i1, i2, i3, _⟩ := e2 hr; exact ⟨⟨i1, by omega⟩, i3⟩
    · rintro ⟨⟨i1, i2⟩, i3⟩; exact e3 ⟨i1, by omega, i3⟩
  · rw [beq_eq_false_iff_ne.2 h]; rfl
end Go.Proofs.YtagkhoeidjlahaaDoor.G.Pure
namespace Go.Proofs.YtagkhoeidjlahaaDoor.G
open Go.RowKit Go.Proofs.YtagkhoeidjlahaaDoorW.PrintWords Go.Proofs.YtagkhoeidjlahaaDoorW.PrintLast Go.Proofs.YtagkhoeidjlahaaDoorW.PrintMore
attribute [local go_sem] max2_int min2_int max_two min_two max_three min_three max_four min_four
set_option linter.unusedVariables false
set_option linter.unusedSimpArgs false
section pob
open Go.Shelf
attribute [local go_sem] Oper.semAt_some
set_option maxHeartbeats 4000000 in
set_option maxRecDepth 100000 in
theorem seq_calls {l N : Nat} {w0 : World} {J : List (List Int) → World → Prop} (Y : Yl l N w0 J) (hN : N ≤ 1000000) (kids : List S36) (hcnt : cntL kids ≤ 1000) (k0 : Int) (s0 : ByteArray) (c0 : Int) (A : Option Addr) (c g : Nat) (W : World)
    (hC : Kd.C k36 w0 A kids.length kids) (hc : kids.length ≤ c) (hbox : W.heap[g]? = some (.cells #[.int .i64 k0, .string s0, .int .i64 c0, .slice A kids.length c] 36 (0, 0))) (hJ : J [] W) (hNl : (posKids [] 0 kids).length ≤ N) :
    CallsIn Fence.wide 3 Tryd.prog 102 #[.func (.yield l) #[] #[], .pointer (some ⟨g, 0, none⟩)] W fun e W' => (∃ v, e = .returned v) ∧ J (posKids [] 0 kids) W' := by
  have hu36 := Tryd.underlying36
  have hm := hC.2.1
  have q0 := (blk_cell hbox 0).trans rfl
  have q1 := (blk_cell hbox 1).trans rfl
  have q2 := (blk_cell hbox 2).trans rfl
  have q3 := (blk_cell hbox 3).trans rfl
  have HR := Aside0.mk hC
  have HC := Aside0.mk hc
  have HJ := Aside0.mk hJ
  have HN := Aside0.mk hNl
  clear hbox hC hc hJ hNl
  refine callsIn_of_wp Tryd.func102 rfl trivial ?_ rfl
  simp only [Tryd.ntmps102, List.size_toArray, List.length_cons, List.length_nil, Nat.reduceAdd, Nat.reduceSub, Array.replicate_succ, Array.replicate_zero, List.push_toArray, List.append_toArray, List.nil_append, List.cons_append]
  gi_wp2_with (first | ((refine ⟨trivial, ?_⟩); gi_at_call 103; refine (callsIn_wide.2 (walk_calls Y hN 1000 kids hcnt k0 s0 c0 A c (.slice none 0 0) [] [] W HR.out HC.out (Kd.R_nil _ _ _ _ _) HJ.out (by simpa using HN.out) (by simp))).mono ?_; rintro e w2 ⟨rfl, hj, hk⟩; have HJ2 := Aside0.mk hj; clear hj hk))
  go_end0
  exact ⟨⟨_, rfl⟩, by simpa using HJ2.out⟩
structure Rng (w0 w : World) (N : Nat) (I : List (List Int) → World → Prop) : Prop where
  below : ∀ {pre : List (List Int)} {W : World}, I pre W → Below w0.heap.size w0 W
  step : ∀ {pre : List (List Int)} {W W' : World}, I pre W → Below W.heap.size W W' → I pre W'
  put : ∀ {pre : List (List Int)} {W : World} {l : Nat} {r r' : Loop}, l = w.heap.size + 1 → I pre W → W.heap[l]? = some (.loop r) → I pre (W.putObj l (.loop r'))
def Keep2 (W W' : World) : Prop := Keep W W' ∧ ∀ (k : Nat) (o : Obj), W.heap[k]? = some o → o.isCells = false → W'.heap[k]? = some o
theorem keep_putLoop {W : World} {l : Nat} {r r' : Loop} (h : W.heap[l]? = some (.loop r)) : Keep W (W.putObj l (.loop r')) := by
  refine ⟨by simp [World.putObj], fun k cells t fr hc ht => ?_⟩
  by_cases hk : l = k
  · subst hk; rw [h] at hc; simp at hc
  · rw [World.putObj_heap_other (Ne.symm hk)]; exact hc
theorem wpIn_rangeFunc_rows {n : Nat} {P : Program} {g : Operand} {p : Tmp} {assign body : Code} {Q : Exit → Act → World → Prop} {a : Act} {w w0 : World} {f : FuncId} {lb : Array Value} {N : Nat} {I : List (List Int) → World → Prop} {all : List (List Int)}
    (hg : a.eval g = .func (.func f) #[] lb) (eg : ∀ args w, (callFunc f args).run P w = .ok (.enter f args) w) (R : Rng w0 w N I) (h0 : I [] w) (a₁ : Value → Act)
    (hprog : P = Tryd.prog)
    (hassign : ∀ (l m : Nat) (v : Value) (W : World) (K : Act → World → Prop), K (a₁ v) W → assign.wpIn (Fence.wide.inRound l) m P (Exit.then K (fun _ _ _ => False)) { tmps := a.tmps.setIfInBounds p v, defers := [] } W)
    (hbody : ∀ (l m : Nat) (pre : List (List Int)) (xs : List Int) (v : Value) (W : World), l = w.heap.size + 1 → (∃ r, W.heap[l]? = some (.loop r)) → W.heap[w.heap.size]? = some (.deferred (some [])) → I pre W → pre.length < N → Kd.R (Kd.int .i64) 3 W w0.heap.size (fun _ => True) v xs → body.wpIn (Fence.wide.inRound l) m P (fun e _ W' => e = .normal ∧ I (pre ++ [xs]) W' ∧ Keep2 W W') (a₁ v) W)
    (hseq : ∀ (l : Nat) (J : List (List Int) → World → Prop) (W : World), Yl l N w0 J → Below w.heap.size w W → J [] W → CallsIn Fence.wide (n - 1) P f (#[.func (.yield l) #[] #[]] ++ lb) W fun e W' => (∃ v, e = .returned v) ∧ J all W')
    (hdone : ∀ (D : Nat) (W : World), D = w.heap.size → I all W → W.heap[D]? = some (.deferred (some [])) → Q .normal { a with defers := { target := .collected D, args := #[] } :: a.defers } W) :
    (Code.rangeFunc g #[p] assign body).wpIn Fence.wide n P Q a w := by
  refine wpIn_rangeFunc ?_
  intro fn hfn
  obtain ⟨rec, hrec⟩ : ∃ rec : LoopState → Option Code → Loop, rec = fun st pe => { state := st, pending := pe, fn, tmps := a.tmps, params := #[p], assign, body, defers := w.heap.size } := ⟨_, rfl⟩
  obtain ⟨W1, hW1⟩ : ∃ W1, (w.alloc (.deferred (some []))).alloc (.loop (rec .ready none)) = W1 := ⟨_, rfl⟩
  have hL1 : W1.heap[w.heap.size + 1]? = some (.loop (rec .ready none)) := by
    rw [← hW1]; have := World.alloc_heap_new (w.alloc (.deferred (some []))) (.loop (rec .ready none)); rwa [World.size_alloc] at this
  have hK1 : W1.heap[w.heap.size]? = some (.deferred (some [])) := by
    rw [← hW1]; exact (Below.heap_alloc _ _ _ (by simp)).trans (World.alloc_heap_new w _)
  have hb1 : Below w.heap.size w W1 := by
    rw [← hW1]; exact (((Below.refl _ w).alloc (Nat.le_refl _) _).alloc (by simp) _)
  have hI1 : I [] W1 := R.step h0 hb1
  refine ⟨w.heap.size + 1, [{ target := .collected w.heap.size, args := #[] }], W1, { target := .fn (.func f) lb, args := #[.func (.yield (w.heap.size + 1)) #[] #[]] }, W1, f,
    #[.func (.yield (w.heap.size + 1)) #[] #[]] ++ lb, W1, ?_, ?_, ?_, ?_, ?_, ?_⟩
  · rw [← hW1, hrec]; exact run_enterLoop_outer _ _ _ _ _
  · simp only [resolve, hg]
    simp [go_sem]
  · intro f' hf'; trivial
  · simp [invoke, go_sem, eg]
  · intro h; simp [Fence.wide] at h
  · refine (hseq (w.heap.size + 1) (fun pre W => I pre W ∧ W.heap[w.heap.size + 1]? = some (.loop (rec .ready none)) ∧ W.heap[w.heap.size]? = some (.deferred (some []))) W1 ?_ hb1 ⟨hI1, hL1, hK1⟩).mono ?_
    · refine ⟨fun h => R.below h.1, fun h hb => ⟨R.step h.1 hb, (hb.block _ (Array.getElem?_eq_some_iff.1 h.2.1).1).trans h.2.1, (hb.block _ (Array.getElem?_eq_some_iff.1 h.2.2).1).trans h.2.2⟩, ?_⟩
      rintro m pre xs v W ⟨hi, hl, hk⟩ hlen hR
      have hlt : w.heap.size + 1 < W.heap.size := (Array.getElem?_eq_some_iff.1 hl).1
      have hy : (Instr.yield (w.heap.size + 1) #[v]).run Tryd.prog W = .ok (.round (w.heap.size + 1) fn (a.tmps.setIfInBounds p v) assign body) W := by
        have := run_yield (P := Tryd.prog) (args := #[v]) hl (by rw [hrec]; rfl)
        simpa [hrec] using this
      refine ⟨fn, _, assign, body, hy, roundIn_of_wpIn hfn ?_⟩
      rw [hprog] at hassign hbody
      refine hassign _ m v W _ ?_
      clear hy
      refine ⟨_, run_beginRound hl (by rw [hrec]), ?_⟩
      have hl2 : (W.putObj (w.heap.size + 1) (.loop { rec .ready none with state := .busy })).heap[w.heap.size + 1]? = some (.loop { rec .ready none with state := .busy }) := World.putObj_heap_same hlt
      have hk2 : (W.putObj (w.heap.size + 1) (.loop { rec .ready none with state := .busy })).heap[w.heap.size]? = some (.deferred (some [])) := (World.putObj_heap_other (by omega)).trans hk
      have hp := keep_putLoop (r' := { rec .ready none with state := .busy }) hl
      refine wpIn_mono (hbody _ m pre xs v _ rfl ⟨_, hl2⟩ hk2 (R.put rfl hi hl) hlen (Keep.R hp hR)) ?_
      rintro e a3 W3 ⟨rfl, hi3, hk3⟩
      have hl3 := hk3.2 _ _ hl2 rfl
      have hd3 := hk3.2 _ _ hk2 rfl
      have hr := run_endRound (P := Tryd.prog) none hl3
      refine ⟨_, _, hr, rfl, ⟨R.put rfl hi3 hl3, ?_, (World.putObj_heap_other (by omega)).trans hd3⟩, hp.trans (hk3.1.trans (keep_putLoop hl3))⟩
      have := World.putObj_heap_same (o := .loop (rec .ready none)) (Array.getElem?_eq_some_iff.1 hl3).1
      simpa [hrec] using this
    · rintro e W2 ⟨⟨v, rfl⟩, hi, hl, hk⟩
      refine ⟨none, _, by have := run_endLoop (P := P) hl (by rw [hrec]; simp); rw [hrec] at this; exact this, ?_⟩
      exact hdone _ _ rfl (R.put rfl hi hl) ((World.putObj_heap_other (by omega)).trans hk)
theorem N_appendIn {α : Type} {F : Fence} {n : Nat} {P : Program} {ops : Array Oper} {rest : List Oper} {o : Oper} {a : Act} {Q : Exit → Act → World → Prop} (d : Kd α) {w0 W : World} (base : Nat) (hgd : o.guard = none) (s x : Operand) (t e : TypeId) (z : Value) (bytes : Nat)
    (ho : o.op = .call { callee := .builtin .append, args := #[s, x], argTypes := #[t, t] })
    (ht : P.underlying t = some (.slice e)) (hinfo : (P.info? e).map (fun i => (i.zero, i.size, i.bytes)) = some (some z, d.sz, bytes)) (hz : z.cells.size = d.sz) (hs0 : 0 < d.sz) (hb0 : 0 < bytes)
    (v : Value) (xs : List α) (p : α) (cs : List Value) (ok okp : Nat → Prop) (hs : a.eval s = v) (hx : a.eval x = .slice (some ⟨W.heap.size, 0, none⟩) 1 1) (hp : Kd.FK d W okp p cs) (hokp : ∀ k, okp k → ok k ∧ some k ≠ v.ownBlock) (hfresh : ∀ k, W.heap.size ≤ k → ok k)
    (HO : Kd.N d e W base ok v xs) (HB : Below base w0 W) (hbase : base ≤ W.heap.size) (hl : (xs.length + 1) * bytes ≤ 140737488355328)
    (h : ∀ v1 w1, Kd.N d e w1 base ok v1 (xs ++ [p]) → Below base w0 w1 → W.grownBy w1 v.ownBlock → (v1.ownBlock = v.ownBlock ∨ ∃ b, v1.ownBlock = some b ∧ W.heap.size ≤ b) → wpListIn F n P ops Q rest (a.put o.dst v1) w1) :
    wpListIn F n P ops Q (o :: rest) a (W.alloc (.cells cs.toArray e)) := by
  obtain ⟨h0, rows, hlr, hR, hf⟩ := HO
  obtain ⟨_, inner, hown, hr⟩ := Kd.raw_any hR
  obtain ⟨i0, hi, hzz⟩ := Option.map_eq_some_iff.1 hinfo
  simp only [Prod.mk.injEq] at hzz
  obtain ⟨hz0, hz1, hz2⟩ := hzz
  have hFK := Kd.FK_raw hp
  have hlen : rows.length + 1 ≤ 140737488355328 := Nat.le_trans (Nat.le_mul_of_pos_right _ hb0) (by rw [hlr]; exact hl)
  refine wpListIn_plain hgd fun K hK' => ?_
  obtain ⟨v1, w1, hrun, hown1, hg, _, hat⟩ := run_append_own_at (P := P) (w := W.alloc (.cells cs.toArray e)) base t o.type e i0 z d.sz bytes ht hi hz0 hz1 hz2 hz hs0 v rows.length inner (hown.alloc _) ⟨W.heap.size, 0, none⟩ 1 1 cs (by rw [hFK.2.1]; simp)
    (by simpa using World.news_of_block (cs := cs.toArray) (t := e) (fr := (0, 0)) (heap_alloc_new W (.cells cs.toArray e))) hFK.2.2 (by simp only [maxLen]; omega) (by rw [hlr]; exact hl) (by simp; omega)
  unfold Oper.wpIn
  refine ⟨?_, ?_⟩
  · simp [Oper.about, ho, resolve, Target.leads, Sem.run_pure]
  · rw [Oper.semAt_plain F _ _ (by rw [ho]; intro c hc'; cases hc')]
    simp [execOp, ho, resolve, invoke, builtin, hs, hx, hrun, Result.andThen]
    have hat' : v1.ownBlock = v.ownBlock ∨ ∃ b, v1.ownBlock = some b ∧ W.heap.size ≤ b := by
      rcases hat with hat | hat
      · exact .inl hat
      · exact .inr ⟨_, hat, by simp⟩
    have hg' : W.grownBy w1 v.ownBlock := World.grownBy.trans (World.grownBy_alloc W _ _) hg
    have hRr : (Kd.raw d.sz).R e w1 base (fun _ => True) v1 (rows ++ [cs]) := Kd.R_appended (okp := fun _ => False) (fun _ _ => trivial) (by simpa using hr) hFK (fun _ hk => hk.elim) (fun _ _ => trivial) hown1 hg' hat'
    exact hK' _ _ (h v1 w1 (Kd.N_appended h0 hlr hf (ys := [p]) (news := [cs]) rfl (fun j y c hy hc => by
      rcases j with _ | j
      · simp only [List.getElem?_cons_zero, Option.some.injEq] at hy hc
        rw [← hy, ← hc]; exact hp
      · simp at hy) hokp hfresh hRr hg' hat') ((HB.alloc hbase _).grown hg (by simp; omega) (own_base hown)) hg' hat')
theorem row_FK {W : World} {base : Nat} {v rv : Value} {xs : List Int} {ok ok' : Nat → Prop} {rows : List (List Int)} (h : Kd.R (Kd.int .i64) 3 W base (fun _ => True) v xs) (hN : Kd.N (Kd.slice 3 (Kd.int .i64)) 26 W base ok rv rows)
    (hok : ∀ k cells, W.heap[k]? = some (.cells cells 3 (0, 0)) → base ≤ k → ok' k) : Kd.FK (Kd.slice 3 (Kd.int .i64)) W (fun k => ok' k ∧ some k ≠ rv.ownBlock) xs [v] := by
  have h2 : Kd.R (Kd.int .i64) 3 W base (fun k => ok' k ∧ some k ≠ rv.ownBlock) v xs := by
    refine Kd.R_mono (Kd.R_bound h) fun k hk => ?_
    obtain ⟨_, hb, _, q, hq, cells, hc⟩ := hk
    have : q = 3 := by simpa [Kd.int, Kd.scalar] using hq
    subst this
    refine ⟨hok k cells hc hb, fun e => ?_⟩
    obtain ⟨cells2, hc2⟩ := Kd.N_typed hN k e.symm
    rw [hc] at hc2
    simp at hc2
  obtain ⟨A, c, rfl⟩ := Kd.R_slice h2
  exact Kd.FK_slice_mk (Kd.R_reads' h2).2.1 (Kd.R_F h2)
set_option maxHeartbeats 4000000 in
set_option maxRecDepth 100000 in
theorem append_calls {w0 : World} (kids : List S36) (hcnt : cntL kids ≤ 1000) (k0 : Int) (s0 : ByteArray) (c0 : Int) (A : Option Addr) (c g : Nat) (W : World)
    (hC : Kd.C k36 w0 A kids.length kids) (hc : kids.length ≤ c) (hbox : W.heap[g]? = some (.cells #[.int .i64 k0, .string s0, .int .i64 c0, .slice A kids.length c] 36 (0, 0))) (hb : Below w0.heap.size w0 W) (hNl : (posKids [] 0 kids).length ≤ 1000000) :
    Calls Tryd.prog 101 #[.slice none 0 0, .func (.func 102) #[] #[.pointer (some ⟨g, 0, none⟩)]] W fun e W' => ∃ v, e = .returned v ∧ Kd.N (Kd.slice 3 (Kd.int .i64)) 26 W' w0.heap.size (fun k => w0.heap.size ≤ k) v (posKids [] 0 kids) ∧ Below w0.heap.size w0 W' := by
  refine (callsIn_wide (n := 4)).1 (callsIn_of_wp_marks Tryd.func101 rfl trivial ?_ rfl)
  simp only [Tryd.ntmps101, List.size_toArray, List.length_cons, List.length_nil, Nat.reduceAdd, Nat.reduceSub, Array.replicate_succ, Array.replicate_zero, List.push_toArray, List.append_toArray, List.nil_append, List.cons_append]
  have HBX := Aside0.mk hbox
  clear hbox
  gi_wp2
  have hlg : g < W.heap.size := blk_lt HBX.out
  refine wpIn_rangeFunc_rows (N := 1000000) (all := posKids [] 0 kids) (w0 := w0) rfl (fun args w => by simp [go_sem]) (I := fun pre Wx => ∃ vb, Wx.heap[W.heap.size]? = some (.cells #[vb] 46 (0, 0)) ∧ Kd.N (Kd.slice 3 (Kd.int .i64)) 26 Wx w0.heap.size (fun k => w0.heap.size ≤ k ∧ k ≠ W.heap.size ∧ k ≠ W.heap.size + 1 ∧ k ≠ W.heap.size + 2) vb pre ∧ Below w0.heap.size w0 Wx) ?_ ?_ (fun v => { tmps := #[Value.slice none 0 0, Value.func (Fn.func 102) #[] #[Value.pointer (some { block := g, off := 0 })], Value.pointer (some { block := W.heap.size, off := 0 }), undef, Value.slice none 0 0, v, Value.func (Fn.func 102) #[] #[Value.pointer (some { block := g, off := 0 })], v, undef, undef, undef, undef, undef], defers := [] }) rfl ?_ ?_ ?_ ?_
  · refine ⟨fun h => h.choose_spec.2.2, ?_, ?_⟩
    · rintro pre X X' ⟨vb, h1, h2, h3⟩ hb'
      exact ⟨vb, blk_below h1 hb', Kd.N_below h2 hb', below_step h3 hb'⟩
    · rintro pre X l r r' hl ⟨vb, h1, h2, h3⟩ hr
      have hl' : l = W.heap.size + 2 := by rw [hl]; simp
      refine ⟨vb, (World.putObj_heap_other (by omega)).trans h1, Kd.N_step h2 (fun k hk _ => World.putObj_heap_other (by omega)), ?_⟩
      refine h3.trans ⟨rfl, rfl, rfl, by simp, fun i hi => World.putObj_heap_other (by have := hb.size; omega)⟩
  · exact ⟨_, blk_new _ _, Kd.N_nil _ _ _ _ _, below_alloc hb _⟩
  · intro l m v X K hK
    gi_wp2
    exact hK
  · intro l m pre xs v X hl hlp hdp hI hlen hR
    obtain ⟨vb, h1, h2, h3⟩ := hI
    have hl2 : l = W.heap.size + 2 := by rw [hl]; simp
    subst hl2
    obtain ⟨rl, hrl⟩ := hlp
    have hlW := blk_lt hrl
    simp only [World.size_alloc] at hdp
    have hw0W := hb.size
    have hFK := row_FK (ok' := fun k => w0.heap.size ≤ k ∧ k ≠ W.heap.size ∧ k ≠ W.heap.size + 1 ∧ k ≠ W.heap.size + 2) hR h2 (fun k cells hc hk => ?okk)
    case okk =>
      refine ⟨hk, ?_, ?_, ?_⟩
      · rintro rfl; rw [h1] at hc; simp at hc
      · rintro rfl; rw [hdp] at hc; simp at hc
      · rintro rfl; rw [hrl] at hc; simp at hc
    obtain ⟨Av, cv, rfl⟩ := Kd.R_slice hR
    obtain ⟨Ab, cb, rfl⟩ := Kd.N_slice h2
    have qb := (blk_cell h1 0).trans rfl
    have qz := blk_frozen h1 0
    have HX := Aside0.mk h1
    have HNv := Aside0.mk h2
    have HBv := Aside0.mk h3
    have HFv := Aside0.mk hFK
    clear h1 h2 h3 hFK
    gi_wp2_with (first | (gi_at_builtin; refine N_appendIn (Kd.slice 3 (Kd.int .i64)) (w0 := w0) w0.heap.size rfl (.tmp 8) (.tmp 10) 46 26 (.slice none 0 0) 24 rfl Tryd.underlying46 info26 rfl (by decide) (by omega) (.slice Ab pre.length cb) pre xs [.slice Av xs.length cv] (fun k => w0.heap.size ≤ k ∧ k ≠ W.heap.size ∧ k ≠ W.heap.size + 1 ∧ k ≠ W.heap.size + 2) (fun k => (w0.heap.size ≤ k ∧ k ≠ W.heap.size ∧ k ≠ W.heap.size + 1 ∧ k ≠ W.heap.size + 2) ∧ some k ≠ (Value.slice Ab pre.length cb).ownBlock) rfl rfl HFv.out (fun _ hk => hk) (fun k hk => by omega) HNv.out HBv.out (by omega) (by omega) ?_; intro v1 w1 hN1 hb1 hg1 hat1; obtain ⟨Ac, cc, rfl⟩ := Kd.N_slice hN1; have HX1 := Aside0.mk (blk_grown HX.out hg1 (Kd.N_ne HNv.out HX.out (by decide))); have qb1 := (blk_cell HX1.out 0).trans rfl; have qf1 := blk_frozen HX1.out 0; have HN1 := Aside0.mk hN1; have HB1 := Aside0.mk hb1; have HG1 := Aside0.mk hg1; clear hN1 hb1 hg1 hat1))
    have hN1' : Kd.N (Kd.slice 3 (Kd.int .i64)) 26 w1 w0.heap.size (fun k => w0.heap.size ≤ k ∧ k ≠ W.heap.size ∧ k ≠ W.heap.size + 1 ∧ k ≠ W.heap.size + 2) (.slice Ac (pre.length + 1) cc) (pre ++ [xs]) := by simpa using HN1.out
    refine ⟨⟨_, ?_, Kd.N_mono (Kd.N_far hN1' (fun k hk => hk.2.1) _) (fun k hk => by simpa using hk), below_set HB1.out hw0W⟩, ⟨by have := HG1.out.size; simpa [World.setCell] using this, fun k cells t fr hc ht => ?_⟩, fun k o hc ho => ?_⟩
    · have := blk_set HX1.out 0 (Value.slice Ac (pre.length + 1) cc)
      simpa using this
    · have hkB : k ≠ W.heap.size := by rintro rfl; rw [HX.out] at hc; rcases ht with rfl | rfl <;> simp at hc
      have hkR : some k ≠ (Value.slice Ab pre.length cb).ownBlock := by
        intro he
        obtain ⟨cells2, hc2⟩ := Kd.N_typed HNv.out k he.symm
        rw [hc] at hc2
        rcases ht with rfl | rfl <;> simp at hc2
      rw [Below.heap_setCell _ _ _ _ hkB]
      exact (HG1.out.block k (blk_lt hc) hkR).trans hc
    · have hkB : k ≠ W.heap.size := by rintro rfl; rw [HX.out] at hc; simp at hc; subst hc; simp [Obj.isCells] at ho
      have hkR : some k ≠ (Value.slice Ab pre.length cb).ownBlock := by
        intro he
        obtain ⟨cells2, hc2⟩ := Kd.N_typed HNv.out k he.symm
        rw [hc] at hc2
        simp at hc2
        subst hc2
        simp [Obj.isCells] at ho
      rw [Below.heap_setCell _ _ _ _ hkB]
      exact (HG1.out.block k (blk_lt hc) hkR).trans hc
  · intro l J X Y hbX hJ
    refine (seq_calls Y (by omega) kids hcnt k0 s0 c0 A c g X hC hc ?_ hJ hNl)
    exact blk_below (blk_alloc HBX.out _) hbX
  · intro D X hD hI hX
    obtain ⟨vb, h1, h2, h3⟩ := hI
    have qb := (blk_cell h1 0).trans rfl
    have HNv := Aside0.mk h2
    have HBv := Aside0.mk h3
    clear h1 h2 h3
    gi_wp2
    have hD' : D = W.heap.size + 1 := by rw [hD]; simp
    refine ⟨by simp, .inl ⟨D, _, rfl, run_takeDeferred hX, ?_⟩⟩
    refine ⟨_, results_tmp rfl _ _ _, _, rfl, Kd.N_mono (Kd.N_step HNv.out (fun k hk _ => World.putObj_heap_other (by omega))) (fun _ hk => hk.1), ?_⟩
    exact HBv.out.trans ⟨rfl, rfl, rfl, by simp, fun i hi => World.putObj_heap_other (by have := hb.size; omega)⟩
end pob
end Go.Proofs.YtagkhoeidjlahaaDoor.G
namespace Go.Proofs.YtagkhoeidjlahaaDoor.G
open Go.RowKit Go.Proofs.YtagkhoeidjlahaaDoorW.PrintWords Go.Proofs.YtagkhoeidjlahaaDoorW.PrintLast Go.Proofs.YtagkhoeidjlahaaDoorW.PrintMore
attribute [local go_sem] max2_int min2_int max_two min_two max_three min_three max_four min_four
set_option linter.unusedVariables false
set_option linter.unusedSimpArgs false
def position_All.f (k : Nat) (a0_0 : Int) (a0_1 : ByteArray) (a0_2 : Int) (l0_3 : List (S36)) : Option (List (List Int) × Int) := (node_Valid.f k a0_0 a0_1 a0_2 l0_3).bind fun v => if v = true then some (posKids [] 0 l0_3, 0) else some ([], 1)
set_option maxHeartbeats 4000000 in

theorem position_All.calls (k : Nat) (a0_0 : Int) (a0_1 : ByteArray) (a0_2 : Int) (A0_3 : Option Addr) (c0_3 : Nat) (l0_3 : List (S36)) (r1 : List (List Int)) (r2 : Int) (w : World) (hr0_3 : Kd.C k36 w A0_3 l0_3.length l0_3) (hc0_3 : l0_3.length ≤ c0_3) (h : position_All.f k a0_0 a0_1 a0_2 l0_3 = some (r1, r2)) :
    Calls Tryd.prog 37 #[.agg #[.int .i64 a0_0, .string a0_1, .int .i64 a0_2, .slice A0_3 l0_3.length c0_3]] w fun e w' => ∃ v0_ : Value, e = .returned (.tuple #[v0_, .int .i64 r2]) ∧ Kd.N (Kd.slice 3 (Kd.int .i64)) 26 w' w.heap.size (fun k_ => (w.heap.size ≤ k_)) v0_ r1 ∧ Below w.heap.size w w' := by
  have hu36 := Tryd.underlying36
  obtain ⟨b, hv, h⟩ := Option.bind_eq_some_iff.mp h
  have hm := hr0_3.2.1
  have HV := Aside0.mk hv
  have HR := Aside0.mk hr0_3
  have HC := Aside0.mk hc0_3
  have HX := Aside0.mk (blk_new w (.cells #[.int .i64 a0_0, .string a0_1, .int .i64 a0_2, .slice A0_3 l0_3.length c0_3] 36))
  have HB := Aside0.mk (below_alloc (Below.refl w.heap.size w) (.cells #[.int .i64 a0_0, .string a0_1, .int .i64 a0_2, .slice A0_3 l0_3.length c0_3] 36))
  clear hr0_3 hc0_3 hv
  have HH := Aside0.mk h
  clear h
  go_enter Tryd.func37, Tryd.ntmps37
  go_wp2_with fail
  refine (node_Valid.calls k a0_0 a0_1 a0_2 A0_3 c0_3 l0_3 b _ (Kd.C_alloc HR.out _) HC.out HV.out).mono ?_
  rintro e w2 ⟨rfl, hb⟩
  have HX2 := Aside0.mk (blk_below HX.out hb)
  have HB2 := Aside0.mk (below_step HB.out hb)
  clear hb HX HB
  have q0 := (blk_cell HX2.out 0).trans rfl
  have q1 := (blk_cell HX2.out 1).trans rfl
  have q2 := (blk_cell HX2.out 2).trans rfl
  have q3 := (blk_cell HX2.out 3).trans rfl
  cases b with
  | false =>
    have h := HH.out
    simp at h
    obtain ⟨rfl, rfl⟩ := h
    go_wp2
    go_ret2
    exact ⟨_, rfl, Kd.N_nil _ _ _ _ _, HB2.out⟩
  | true =>
    have h := HH.out
    simp at h
    obtain ⟨rfl, rfl⟩ := h
    have hcn : cntL l0_3 ≤ 1000 := by
      have h1 := HV.out
      unfold node_Valid.f at h1
      split at h1
      · obtain ⟨⟨b, l'⟩, h2, h3⟩ := Option.bind_eq_some_iff.mp h1
        simp at h3
        subst h3
        have := chk_cnt _ _ _ _ _ h2
        rw [cnt_eq] at this
        simp at this
        omega
      · simp at h1
    have HCn := Aside0.mk hcn
    have HLen := Aside0.mk (posKids_len [] 0 l0_3)
    clear hcn
    go_wp2_with fail
    refine (positions_calls w2).mono ?_
    rintro e w3 ⟨rfl, rfl⟩
    have HX3 := Aside0.mk (blk_new w2 (.cells #[.int .i64 a0_0, .string a0_1, .int .i64 a0_2, .slice A0_3 l0_3.length c0_3] 36))
    have HB3 := Aside0.mk (below_alloc HB2.out (.cells #[.int .i64 a0_0, .string a0_1, .int .i64 a0_2, .slice A0_3 l0_3.length c0_3] 36))
    go_wp2_with fail
    refine (collect_calls (append_calls (w0 := w) l0_3 HCn.out a0_0 a0_1 a0_2 A0_3 c0_3 w2.heap.size _ HR.out HC.out HX3.out HB3.out (by have := HCn.out; have := HLen.out; omega))).mono ?_
    rintro e w4 ⟨v, rfl, hN, hB⟩
    have HN := Aside0.mk hN
    have HB4 := Aside0.mk hB
    clear hN hB
    go_wp2
    go_ret2
    exact ⟨_, rfl, HN.out, HB4.out⟩
end Go.Proofs.YtagkhoeidjlahaaDoor.G
namespace Go.Proofs.YtagkhoeidjlahaaDoor.G
open Go.RowKit Go.Proofs.YtagkhoeidjlahaaDoorW.PrintWords Go.Proofs.YtagkhoeidjlahaaDoorW.PrintLast Go.Proofs.YtagkhoeidjlahaaDoorW.PrintMore
attribute [local go_sem] max2_int min2_int max_two min_two max_three min_three max_four min_four
set_option linter.unusedVariables false
set_option linter.unusedSimpArgs false
def cmp_isNaN_int.f (a0 : Int) : Option (Bool) := some (a0 != a0)
set_option maxHeartbeats 8000000 in
set_option maxRecDepth 100000 in
theorem cmp_isNaN_int.calls (a0 : Int) (r : Bool) (w : World) (h : cmp_isNaN_int.f a0 = some r) :
    Calls Tryd.prog 112 #[.int .i64 a0] w fun e w' => e = .returned (.bool r) ∧ Drawn0 w w' := by
  have H : (some (a0 != a0)) = some r := h
  clear h
  obtain rfl := Option.some.inj H
  go_enter Tryd.func112, Tryd.ntmps112
  go_wp2
  go_ret
  exact ⟨by first | rfl | (simp; done) | (simp [*]; done), by repeat (first | exact Drawn0.refl _ | apply Drawn0.step)⟩
end Go.Proofs.YtagkhoeidjlahaaDoor.G
namespace Go.Proofs.YtagkhoeidjlahaaDoor.G
open Go.RowKit Go.Proofs.YtagkhoeidjlahaaDoorW.PrintWords Go.Proofs.YtagkhoeidjlahaaDoorW.PrintLast Go.Proofs.YtagkhoeidjlahaaDoorW.PrintMore
attribute [local go_sem] max2_int min2_int max_two min_two max_three min_three max_four min_four
set_option linter.unusedVariables false
set_option linter.unusedSimpArgs false
def cmp_Compare_int.f (a0 : Int) (a1 : Int) : Option (Int) := (cmp_isNaN_int.f a0).bind fun t390 => ((cmp_isNaN_int.f a1).bind fun t391 => (if t390 = true then (if t391 = true then (some 0) else (some (-1))) else (if t391 = true then (some 1) else (if a0 < a1 then (some (-1)) else (if a0 > a1 then (some 1) else (some 0))))))
set_option maxHeartbeats 8000000 in
set_option maxRecDepth 100000 in
theorem cmp_Compare_int.calls (a0 : Int) (a1 : Int) (r : Int) (w : World) (h : cmp_Compare_int.f a0 a1 = some r) :
    Calls Tryd.prog 98 #[.int .i64 a0, .int .i64 a1] w fun e w' => e = .returned (.int .i64 r) ∧ Drawn0 w w' := by
  have H : ((cmp_isNaN_int.f a0).bind fun t390 => ((cmp_isNaN_int.f a1).bind fun t391 => (if t390 = true then (if t391 = true then (some 0) else (some (-1))) else (if t391 = true then (some 1) else (if a0 < a1 then (some (-1)) else (if a0 > a1 then (some 1) else (some 0))))))) = some r := h
  clear h
  replace H := Option.bind_eq_some_iff.mp H
  obtain ⟨t390, A30, H⟩ := H
  replace H : ((cmp_isNaN_int.f a1).bind fun t391 => (if t390 = true then (if t391 = true then (some 0) else (some (-1))) else (if t391 = true then (some 1) else (if a0 < a1 then (some (-1)) else (if a0 > a1 then (some 1) else (some 0)))))) = some r := H
  have A3 := Aside0.mk A30
  clear A30
  replace H := Option.bind_eq_some_iff.mp H
  obtain ⟨t391, A40, H⟩ := H
  replace H : (if t390 = true then (if t391 = true then (some 0) else (some (-1))) else (if t391 = true then (some 1) else (if a0 < a1 then (some (-1)) else (if a0 > a1 then (some 1) else (some 0))))) = some r := H
  have A4 := Aside0.mk A40
  clear A40
  by_cases c5 : t390 = true
  · subst c5
    have H1 : (if t391 = true then (some 0) else (some (-1))) = some r := by rw [if_pos rfl] at H; exact H
    clear H
    have H := H1
    clear H1
    by_cases c6 : t391 = true
    · subst c6
      have H1 : (some 0) = some r := by rw [if_pos rfl] at H; exact H
      clear H
      have H := H1
      clear H1
      obtain rfl := Option.some.inj H
      go_enter Tryd.func98, Tryd.ntmps98
      go_wp2_with (first | ((with_reducible refine gate_callee (f := 112) rfl ?_); refine goesL_ (some 8) rfl rfl Tryd.func112 (by kernel_rfl) rfl #[.int .i64 a0] rfl (by (try simp only [List.map_toArray, List.map_cons, List.map_nil]); first | done | rfl | (simp only [List.length_drop, List.length_take]; rfl)) ?_; (with_reducible refine (cmp_isNaN_int.calls a0 true _ A3.out).mono ?_); rintro e w' ⟨rfl, ⟨nd, rfl⟩⟩; refine ⟨_, rfl, ?_⟩) | ((with_reducible refine gate_callee (f := 112) rfl ?_); refine goesL_ (some 10) rfl rfl Tryd.func112 (by kernel_rfl) rfl #[.int .i64 a1] rfl (by (try simp only [List.map_toArray, List.map_cons, List.map_nil]); first | done | rfl | (simp only [List.length_drop, List.length_take]; rfl)) ?_; (with_reducible refine (cmp_isNaN_int.calls a1 true _ A4.out).mono ?_); rintro e w' ⟨rfl, ⟨nd, rfl⟩⟩; refine ⟨_, rfl, ?_⟩))
      go_ret
      exact ⟨by first | rfl | (simp; done) | (simp [*]; done), by repeat (first | exact Drawn0.refl _ | apply Drawn0.step)⟩
    · replace c6 := Bool.eq_false_iff.mpr c6
      subst c6
      have H1 : (some (-1)) = some r := by rw [if_neg (show ¬ (false = true) by decide)] at H; exact H
      clear H
      have H := H1
      clear H1
      obtain rfl := Option.some.inj H
      go_enter Tryd.func98, Tryd.ntmps98
      go_wp2_with (first | ((with_reducible refine gate_callee (f := 112) rfl ?_); refine goesL_ (some 8) rfl rfl Tryd.func112 (by kernel_rfl) rfl #[.int .i64 a0] rfl (by (try simp only [List.map_toArray, List.map_cons, List.map_nil]); first | done | rfl | (simp only [List.length_drop, List.length_take]; rfl)) ?_; (with_reducible refine (cmp_isNaN_int.calls a0 true _ A3.out).mono ?_); rintro e w' ⟨rfl, ⟨nd, rfl⟩⟩; refine ⟨_, rfl, ?_⟩) | ((with_reducible refine gate_callee (f := 112) rfl ?_); refine goesL_ (some 10) rfl rfl Tryd.func112 (by kernel_rfl) rfl #[.int .i64 a1] rfl (by (try simp only [List.map_toArray, List.map_cons, List.map_nil]); first | done | rfl | (simp only [List.length_drop, List.length_take]; rfl)) ?_; (with_reducible refine (cmp_isNaN_int.calls a1 false _ A4.out).mono ?_); rintro e w' ⟨rfl, ⟨nd, rfl⟩⟩; refine ⟨_, rfl, ?_⟩))
      go_ret
      exact ⟨by first | rfl | (simp; done) | (simp [*]; done), by repeat (first | exact Drawn0.refl _ | apply Drawn0.step)⟩
  · replace c5 := Bool.eq_false_iff.mpr c5
    subst c5
    have H1 : (if t391 = true then (some 1) else (if a0 < a1 then (some (-1)) else (if a0 > a1 then (some 1) else (some 0)))) = some r := by rw [if_neg (show ¬ (false = true) by decide)] at H; exact H
    clear H
    have H := H1
    clear H1
    by_cases c7 : t391 = true
    · subst c7
      have H1 : (some 1) = some r := by rw [if_pos rfl] at H; exact H
      clear H
      have H := H1
      clear H1
      obtain rfl := Option.some.inj H
      go_enter Tryd.func98, Tryd.ntmps98
      go_wp2_with (first | ((with_reducible refine gate_callee (f := 112) rfl ?_); refine goesL_ (some 8) rfl rfl Tryd.func112 (by kernel_rfl) rfl #[.int .i64 a0] rfl (by (try simp only [List.map_toArray, List.map_cons, List.map_nil]); first | done | rfl | (simp only [List.length_drop, List.length_take]; rfl)) ?_; (with_reducible refine (cmp_isNaN_int.calls a0 false _ A3.out).mono ?_); rintro e w' ⟨rfl, ⟨nd, rfl⟩⟩; refine ⟨_, rfl, ?_⟩) | ((with_reducible refine gate_callee (f := 112) rfl ?_); refine goesL_ (some 10) rfl rfl Tryd.func112 (by kernel_rfl) rfl #[.int .i64 a1] rfl (by (try simp only [List.map_toArray, List.map_cons, List.map_nil]); first | done | rfl | (simp only [List.length_drop, List.length_take]; rfl)) ?_; (with_reducible refine (cmp_isNaN_int.calls a1 true _ A4.out).mono ?_); rintro e w' ⟨rfl, ⟨nd, rfl⟩⟩; refine ⟨_, rfl, ?_⟩))
      go_ret
      exact ⟨by first | rfl | (simp; done) | (simp [*]; done), by repeat (first | exact Drawn0.refl _ | apply Drawn0.step)⟩
    · replace c7 := Bool.eq_false_iff.mpr c7
      subst c7
      have H1 : (if a0 < a1 then (some (-1)) else (if a0 > a1 then (some 1) else (some 0))) = some r := by rw [if_neg (show ¬ (false = true) by decide)] at H; exact H
      clear H
      have H := H1
      clear H1
      by_cases c8 : a0 < a1
      · rw [if_pos c8] at H
        have c8b0 : decide (a0 < a1) = true := decide_eq_true c8
        clear c8
        obtain rfl := Option.some.inj H
        go_enter Tryd.func98, Tryd.ntmps98
        go_wp2_with (first | ((with_reducible refine gate_callee (f := 112) rfl ?_); refine goesL_ (some 8) rfl rfl Tryd.func112 (by kernel_rfl) rfl #[.int .i64 a0] rfl (by (try simp only [List.map_toArray, List.map_cons, List.map_nil]); first | done | rfl | (simp only [List.length_drop, List.length_take]; rfl)) ?_; (with_reducible refine (cmp_isNaN_int.calls a0 false _ A3.out).mono ?_); rintro e w' ⟨rfl, ⟨nd, rfl⟩⟩; refine ⟨_, rfl, ?_⟩) | ((with_reducible refine gate_callee (f := 112) rfl ?_); refine goesL_ (some 10) rfl rfl Tryd.func112 (by kernel_rfl) rfl #[.int .i64 a1] rfl (by (try simp only [List.map_toArray, List.map_cons, List.map_nil]); first | done | rfl | (simp only [List.length_drop, List.length_take]; rfl)) ?_; (with_reducible refine (cmp_isNaN_int.calls a1 false _ A4.out).mono ?_); rintro e w' ⟨rfl, ⟨nd, rfl⟩⟩; refine ⟨_, rfl, ?_⟩))
        go_ret
        exact ⟨by first | rfl | (simp; done) | (simp [*]; done), by repeat (first | exact Drawn0.refl _ | apply Drawn0.step)⟩
      · rw [if_neg c8] at H
        have c8b0 : decide (a0 < a1) = false := decide_eq_false c8
        clear c8
        by_cases c9 : a0 > a1
        · rw [if_pos c9] at H
          have c9b0 : decide (a1 < a0) = true := decide_eq_true c9
          clear c9
          obtain rfl := Option.some.inj H
          go_enter Tryd.func98, Tryd.ntmps98
          go_wp2_with (first | ((with_reducible refine gate_callee (f := 112) rfl ?_); refine goesL_ (some 8) rfl rfl Tryd.func112 (by kernel_rfl) rfl #[.int .i64 a0] rfl (by (try simp only [List.map_toArray, List.map_cons, List.map_nil]); first | done | rfl | (simp only [List.length_drop, List.length_take]; rfl)) ?_; (with_reducible refine (cmp_isNaN_int.calls a0 false _ A3.out).mono ?_); rintro e w' ⟨rfl, ⟨nd, rfl⟩⟩; refine ⟨_, rfl, ?_⟩) | ((with_reducible refine gate_callee (f := 112) rfl ?_); refine goesL_ (some 10) rfl rfl Tryd.func112 (by kernel_rfl) rfl #[.int .i64 a1] rfl (by (try simp only [List.map_toArray, List.map_cons, List.map_nil]); first | done | rfl | (simp only [List.length_drop, List.length_take]; rfl)) ?_; (with_reducible refine (cmp_isNaN_int.calls a1 false _ A4.out).mono ?_); rintro e w' ⟨rfl, ⟨nd, rfl⟩⟩; refine ⟨_, rfl, ?_⟩))
          go_ret
          exact ⟨by first | rfl | (simp; done) | (simp [*]; done), by repeat (first | exact Drawn0.refl _ | apply Drawn0.step)⟩
        · rw [if_neg c9] at H
          have c9b0 : decide (a1 < a0) = false := decide_eq_false c9
          clear c9
          obtain rfl := Option.some.inj H
          go_enter Tryd.func98, Tryd.ntmps98
          go_wp2_with (first | ((with_reducible refine gate_callee (f := 112) rfl ?_); refine goesL_ (some 8) rfl rfl Tryd.func112 (by kernel_rfl) rfl #[.int .i64 a0] rfl (by (try simp only [List.map_toArray, List.map_cons, List.map_nil]); first | done | rfl | (simp only [List.length_drop, List.length_take]; rfl)) ?_; (with_reducible refine (cmp_isNaN_int.calls a0 false _ A3.out).mono ?_); rintro e w' ⟨rfl, ⟨nd, rfl⟩⟩; refine ⟨_, rfl, ?_⟩) | ((with_reducible refine gate_callee (f := 112) rfl ?_); refine goesL_ (some 10) rfl rfl Tryd.func112 (by kernel_rfl) rfl #[.int .i64 a1] rfl (by (try simp only [List.map_toArray, List.map_cons, List.map_nil]); first | done | rfl | (simp only [List.length_drop, List.length_take]; rfl)) ?_; (with_reducible refine (cmp_isNaN_int.calls a1 false _ A4.out).mono ?_); rintro e w' ⟨rfl, ⟨nd, rfl⟩⟩; refine ⟨_, rfl, ?_⟩))
          go_ret
          exact ⟨by first | rfl | (simp; done) | (simp [*]; done), by repeat (first | exact Drawn0.refl _ | apply Drawn0.step)⟩
end Go.Proofs.YtagkhoeidjlahaaDoor.G
namespace Go.Proofs.YtagkhoeidjlahaaDoor.G
open Go.RowKit Go.Proofs.YtagkhoeidjlahaaDoorW.PrintWords Go.Proofs.YtagkhoeidjlahaaDoorW.PrintLast Go.Proofs.YtagkhoeidjlahaaDoorW.PrintMore
attribute [local go_sem] max2_int min2_int max_two min_two max_three min_three max_four min_four
set_option linter.unusedVariables false
set_option linter.unusedSimpArgs false
def slices_Compare_int_int.l0 : Nat → List Int → List Int → List Int → Int → Int → Option (Int)
  | 0, _, _, _, _, _ => none
  | k + 1, x0, x1, x9, x10, x11 => if x11 < x10 then (if 0 ≤ x11 then (if x11 < (x9.length : Int) then (if x11 ≥ (x1.length : Int) then (some 1) else (if x11 < (x1.length : Int) then ((cmp_Compare_int.f (rd x9 x11) (rd x1 x11)).bind fun t394 => (if t394 = 0 then (slices_Compare_int_int.l0 k x0 x1 x9 x10 (wrap64 (x11 + 1))) else (some t394))) else (none))) else (none)) else (none)) else (if (x0.length : Int) < (x1.length : Int) then (some (-1)) else (some 0))
def slices_Compare_int_int.f (k : Nat) (l0 : List Int) (l1 : List Int) : Option (Int) := slices_Compare_int_int.l0 k l0 l1 l0 (l0.length : Int) 0
set_option maxHeartbeats 8000000 in
set_option maxRecDepth 100000 in
theorem slices_Compare_int_int.calls (k : Nat) (A0 : Option Addr) (c0 : Nat) (l0 : List Int) (A1 : Option Addr) (c1 : Nat) (l1 : List Int) (r : Int) (w : World) (hr0 : Kd.C (Kd.int .i64) w A0 l0.length l0) (hc0 : l0.length ≤ c0) (hr1 : Kd.C (Kd.int .i64) w A1 l1.length l1) (hc1 : l1.length ≤ c1) (h : slices_Compare_int_int.f k l0 l1 = some r) :
    Calls Tryd.prog 70 #[.slice A0 l0.length c0, .slice A1 l1.length c1] w fun e w' => e = .returned (.int .i64 r) ∧ Drawn0 w w' := by
  have HR0 := Aside0.mk hr0
  have HC0 := Aside0.mk hc0
  clear hr0 hc0
  have HR1 := Aside0.mk hr1
  have HC1 := Aside0.mk hc1
  clear hr1 hc1
  have H : (slices_Compare_int_int.l0 k l0 l1 l0 (l0.length : Int) 0) = some r := h
  clear h
  have H' := Aside0.mk H
  clear H
  go_enter Tryd.func70, Tryd.ntmps70
  go_wp2
  go_loopg [11] k (fun kq v11 w' => ∃ (x11_1 : Int), v11 = .int .i64 x11_1 ∧ Aside0 (slices_Compare_int_int.l0 kq l0 l1 l0 (l0.length : Int) x11_1 = some r) ∧ Aside0 (kq ≤ k) ∧ Drawn0 w w')
  case atStart => exact ⟨(0), (by first | rfl | (simp; done) | (simp [*]; done)), H', ⟨Nat.le_refl _⟩, by repeat (first | exact Drawn0.refl _ | apply Drawn0.step)⟩
  case round =>
    clear H'
    try clear c1
    try clear p2
    obtain ⟨x11_1, rfl, HA, HK1, ⟨m1, rfl⟩⟩ := hrel
    cases gk with
    | zero => exact absurd HA.out (by simp [slices_Compare_int_int.l0])
    | succ k1 =>
      have H := HA.out
      clear HA
      simp only [slices_Compare_int_int.l0] at H
      by_cases c3 : x11_1 < (l0.length : Int)
      · rw [if_pos c3] at H
        have c3b0 : decide (x11_1 < (l0.length : Int)) = true := decide_eq_true c3
        clear c3
        by_cases c4 : 0 ≤ x11_1
        · rw [if_pos c4] at H
          have c4b0 : decide (0 ≤ x11_1) = true := decide_eq_true c4
          clear c4
          by_cases c5 : x11_1 < (l0.length : Int)
          · rw [if_pos c5] at H
            have c5b0 : decide (x11_1 < (l0.length : Int)) = true := decide_eq_true c5
            clear c5
            by_cases c6 : x11_1 ≥ (l1.length : Int)
            · rw [if_pos c6] at H
              have c6b0 : decide ((l1.length : Int) ≤ x11_1) = true := decide_eq_true c6
              clear c6
              obtain rfl := Option.some.inj H
              have p392 : 0 ≤ (x11_1 : Int) := of_decide_eq_true (by first | (with_reducible assumption) | assumption)
              have q392 : x11_1 < (l0.length : Int) := of_decide_eq_true (by first | (with_reducible assumption) | assumption)
              obtain ⟨ad392, e392, hx392_0⟩ := Kd.at_int HR0.out x11_1 p392 q392
              cases e392
              replace p392 := eq_true p392
              replace q392 := eq_true q392
              go_wp2
              go_ret
              exact ⟨by first | rfl | (simp; done) | (simp [*]; done), by repeat (first | exact Drawn0.refl _ | apply Drawn0.step)⟩
            · rw [if_neg c6] at H
              have c6b0 : decide ((l1.length : Int) ≤ x11_1) = false := decide_eq_false c6
              clear c6
              by_cases c7 : x11_1 < (l1.length : Int)
              · rw [if_pos c7] at H
                have c7b0 : decide (x11_1 < (l1.length : Int)) = true := decide_eq_true c7
                clear c7
                replace H := Option.bind_eq_some_iff.mp H
                obtain ⟨t394, A80, H⟩ := H
                replace H : (if t394 = 0 then (slices_Compare_int_int.l0 k1 l0 l1 l0 (l0.length : Int) (wrap64 (x11_1 + 1))) else (some t394)) = some r := H
                have A8 := Aside0.mk A80
                clear A80
                by_cases c9 : t394 = 0
                · rw [if_pos c9] at H
                  have c9b0 : (t394 == 0) = true := beq_iff_eq.mpr c9
                  have c9b1 : (t394 != 0) = false := bne_eq_false_iff_eq.mpr c9
                  clear c9
                  have H' := Aside0.mk H
                  clear H
                  have p392 : 0 ≤ (x11_1 : Int) := of_decide_eq_true (by first | (with_reducible assumption) | assumption)
                  have q392 : x11_1 < (l0.length : Int) := of_decide_eq_true (by first | (with_reducible assumption) | assumption)
                  obtain ⟨ad392, e392, hx392_0⟩ := Kd.at_int HR0.out x11_1 p392 q392
                  cases e392
                  replace p392 := eq_true p392
                  replace q392 := eq_true q392
                  have p393 : 0 ≤ (x11_1 : Int) := of_decide_eq_true (by first | (with_reducible assumption) | assumption)
                  have q393 : x11_1 < (l1.length : Int) := of_decide_eq_true (by first | (with_reducible assumption) | assumption)
                  obtain ⟨ad393, e393, hx393_0⟩ := Kd.at_int HR1.out x11_1 p393 q393
                  cases e393
                  replace p393 := eq_true p393
                  replace q393 := eq_true q393
                  go_wp2_with (first | ((with_reducible refine gate_callee (f := 98) rfl ?_); refine goesL_ (some 26) rfl rfl Tryd.func98 (by kernel_rfl) rfl #[.int .i64 (rd l0 x11_1), .int .i64 (rd l1 x11_1)] rfl (by (try simp only [List.map_toArray, List.map_cons, List.map_nil]); first | done | rfl | (simp only [List.length_drop, List.length_take]; rfl)) ?_; (with_reducible refine (cmp_Compare_int.calls (rd l0 x11_1) (rd l1 x11_1) t394 _ A8.out).mono ?_); rintro e w' ⟨rfl, ⟨nd, rfl⟩⟩; refine ⟨_, rfl, ?_⟩))
                  go_roundg k1
                  case measure => have := HK1.out; omega
                  case rel => exact ⟨(wrap64 (x11_1 + 1)), (by first | rfl | (simp; done) | (simp [*]; done)), H', ⟨by have := HK1.out; omega⟩, by repeat (first | exact Drawn0.refl _ | apply Drawn0.step)⟩
                · rw [if_neg c9] at H
                  have c9b0 : (t394 == 0) = false := beq_eq_false_iff_ne.mpr c9
                  have c9b1 : (t394 != 0) = true := bne_iff_ne.mpr c9
                  obtain rfl := Option.some.inj H
                  have p392 : 0 ≤ (x11_1 : Int) := of_decide_eq_true (by first | (with_reducible assumption) | assumption)
                  have q392 : x11_1 < (l0.length : Int) := of_decide_eq_true (by first | (with_reducible assumption) | assumption)
                  obtain ⟨ad392, e392, hx392_0⟩ := Kd.at_int HR0.out x11_1 p392 q392
                  cases e392
                  replace p392 := eq_true p392
                  replace q392 := eq_true q392
                  have p393 : 0 ≤ (x11_1 : Int) := of_decide_eq_true (by first | (with_reducible assumption) | assumption)
                  have q393 : x11_1 < (l1.length : Int) := of_decide_eq_true (by first | (with_reducible assumption) | assumption)
                  obtain ⟨ad393, e393, hx393_0⟩ := Kd.at_int HR1.out x11_1 p393 q393
                  cases e393
                  replace p393 := eq_true p393
                  replace q393 := eq_true q393
                  go_wp2_with (first | ((with_reducible refine gate_callee (f := 98) rfl ?_); refine goesL_ (some 26) rfl rfl Tryd.func98 (by kernel_rfl) rfl #[.int .i64 (rd l0 x11_1), .int .i64 (rd l1 x11_1)] rfl (by (try simp only [List.map_toArray, List.map_cons, List.map_nil]); first | done | rfl | (simp only [List.length_drop, List.length_take]; rfl)) ?_; (with_reducible refine (cmp_Compare_int.calls (rd l0 x11_1) (rd l1 x11_1) t394 _ A8.out).mono ?_); rintro e w' ⟨rfl, ⟨nd, rfl⟩⟩; refine ⟨_, rfl, ?_⟩))
                  go_ret
                  exact ⟨by first | rfl | (simp; done) | (simp [*]; done), by repeat (first | exact Drawn0.refl _ | apply Drawn0.step)⟩
              · rw [if_neg c7] at H
                exact absurd H (by simp)
          · rw [if_neg c5] at H
            exact absurd H (by simp)
        · rw [if_neg c4] at H
          exact absurd H (by simp)
      · rw [if_neg c3] at H
        have c3b0 : decide (x11_1 < (l0.length : Int)) = false := decide_eq_false c3
        clear c3
        by_cases c10 : (l0.length : Int) < (l1.length : Int)
        · rw [if_pos c10] at H
          have c10b0 : decide ((l0.length : Int) < (l1.length : Int)) = true := decide_eq_true c10
          have c10b1 : decide (l0.length < l1.length) = true := decide_eq_true (Int.ofNat_lt.mp c10)
          clear c10
          obtain rfl := Option.some.inj H
          go_wp2
          go_ret
          exact ⟨by first | rfl | (simp; done) | (simp [*]; done), by repeat (first | exact Drawn0.refl _ | apply Drawn0.step)⟩
        · rw [if_neg c10] at H
          have c10b0 : decide ((l0.length : Int) < (l1.length : Int)) = false := decide_eq_false c10
          have c10b1 : decide (l0.length < l1.length) = false := decide_eq_false (fun h => c10 (Int.ofNat_lt.mpr h))
          clear c10
          obtain rfl := Option.some.inj H
          go_wp2
          go_ret
          exact ⟨by first | rfl | (simp; done) | (simp [*]; done), by repeat (first | exact Drawn0.refl _ | apply Drawn0.step)⟩
end Go.Proofs.YtagkhoeidjlahaaDoor.G
namespace Go.Proofs.YtagkhoeidjlahaaDoor.G
open Go.RowKit Go.Proofs.YtagkhoeidjlahaaDoorW.PrintWords Go.Proofs.YtagkhoeidjlahaaDoorW.PrintLast Go.Proofs.YtagkhoeidjlahaaDoorW.PrintMore
attribute [local go_sem] max2_int min2_int max_two min_two max_three min_three max_four min_four
set_option linter.unusedVariables false
set_option linter.unusedSimpArgs false
def position_Compare.f (k : Nat) (l0 : List Int) (l1 : List Int) : Option (Int) := (slices_Compare_int_int.f k l0 l1).bind fun t395 => (some t395)
set_option maxHeartbeats 8000000 in
set_option maxRecDepth 100000 in
theorem position_Compare.calls (k : Nat) (A0 : Option Addr) (c0 : Nat) (l0 : List Int) (A1 : Option Addr) (c1 : Nat) (l1 : List Int) (r : Int) (w : World) (hr0 : Kd.C (Kd.int .i64) w A0 l0.length l0) (hc0 : l0.length ≤ c0) (hr1 : Kd.C (Kd.int .i64) w A1 l1.length l1) (hc1 : l1.length ≤ c1) (h : position_Compare.f k l0 l1 = some r) :
    Calls Tryd.prog 32 #[.slice A0 l0.length c0, .slice A1 l1.length c1] w fun e w' => e = .returned (.int .i64 r) ∧ Drawn0 w w' := by
  have HR0 := Aside0.mk hr0
  have HC0 := Aside0.mk hc0
  clear hr0 hc0
  have HR1 := Aside0.mk hr1
  have HC1 := Aside0.mk hc1
  clear hr1 hc1
  have H : ((slices_Compare_int_int.f k l0 l1).bind fun t395 => (some t395)) = some r := h
  clear h
  replace H := Option.bind_eq_some_iff.mp H
  obtain ⟨t395, A30, H⟩ := H
  replace H : (some t395) = some r := H
  have A3 := Aside0.mk A30
  clear A30
  obtain rfl := Option.some.inj H
  go_enter Tryd.func32, Tryd.ntmps32
  go_wp2_with (first | ((with_reducible refine gate_callee (f := 70) rfl ?_); refine goesL_ (some 7) rfl rfl Tryd.func70 (by kernel_rfl) rfl #[.slice A0 l0.length c0, .slice A1 l1.length c1] rfl (by (try simp only [List.map_toArray, List.map_cons, List.map_nil]); first | done | rfl | (simp only [List.length_drop, List.length_take]; rfl)) ?_; (with_reducible refine (slices_Compare_int_int.calls k _ _ l0 _ _ l1 t395 _ ?side1 ?side2 ?side3 ?side4 A3.out).mono ?_); (case side1 => repeat (first | exact HR0.out | (with_reducible refine Kd.C_alloc ?_ _) | (with_reducible refine Kd.C_drewN ?_ _) | (with_reducible refine Kd.C_drew ?_))); (case side2 => exact HC0.out); (case side3 => repeat (first | exact HR1.out | (with_reducible refine Kd.C_alloc ?_ _) | (with_reducible refine Kd.C_drewN ?_ _) | (with_reducible refine Kd.C_drew ?_))); (case side4 => exact HC1.out); rintro e w' ⟨rfl, ⟨nd, rfl⟩⟩; refine ⟨_, rfl, ?_⟩))
  go_ret
  exact ⟨by first | rfl | (simp; done) | (simp [*]; done), by repeat (first | exact Drawn0.refl _ | apply Drawn0.step)⟩
end Go.Proofs.YtagkhoeidjlahaaDoor.G
namespace Go.Proofs.YtagkhoeidjlahaaDoor.G
open Go.RowKit Go.Proofs.YtagkhoeidjlahaaDoorW.PrintWords Go.Proofs.YtagkhoeidjlahaaDoorW.PrintLast Go.Proofs.YtagkhoeidjlahaaDoorW.PrintMore
attribute [local go_sem] max2_int min2_int max_two min_two max_three min_three max_four min_four
set_option linter.unusedVariables false
set_option linter.unusedSimpArgs false
section pod
def bsl (k : Nat) (xs : List (List Int)) (pos : List Int) : Nat → Int → Int → Option Int
  | 0, _, _ => none
  | q + 1, i, j => if i < j then (position_Compare.f k (rd_L5 xs ((i + j) / 2)) pos).bind fun c => if c < 0 then bsl k xs pos q ((i + j) / 2 + 1) j else bsl k xs pos q i ((i + j) / 2) else some i
def bsf (k : Nat) (xs : List (List Int)) (pos : List Int) : Option (Int × Bool) := if xs.length < 17592186044416 then (bsl k xs pos k 0 (xs.length : Int)).bind fun i => if i < (xs.length : Int) then (position_Compare.f k (rd_L5 xs i) pos).bind fun c => some (i, c == 0) else some (i, false) else none
set_option maxHeartbeats 4000000 in
set_option maxRecDepth 100000 in
theorem bsf_calls (k : Nat) (A : Option Addr) (c : Nat) (xs : List (List Int)) (A1 : Option Addr) (c1 : Nat) (l1 : List Int) (w : World) (hC : Kd.C (Kd.slice 3 (Kd.int .i64)) w A xs.length xs) (hc : xs.length ≤ c) (hC1 : Kd.C (Kd.int .i64) w A1 l1.length l1) (hc1 : l1.length ≤ c1) (i : Int) (b : Bool) (h : bsf k xs l1 = some (i, b)) :
    Calls Tryd.prog 69 #[.slice A xs.length c, .slice A1 l1.length c1, .func (.func 32) #[] #[]] w fun e w' => e = .returned (.tuple #[.int .i64 i, .bool b]) ∧ Below w.heap.size w w' := by
  unfold bsf at h
  split at h
  case isFalse => simp at h
  rename_i hlen
  obtain ⟨i1, h1, h2⟩ := Option.bind_eq_some_iff.mp h
  have HR := Aside0.mk hC
  have HC := Aside0.mk hc
  have HR1 := Aside0.mk hC1
  have HC1 := Aside0.mk hc1
  have H1 := Aside0.mk h1
  have H2 := Aside0.mk h2
  have hm := hC.2.1
  clear hC hc hC1 hc1 h1 h2 h
  go_enter Tryd.func69, Tryd.ntmps69
  go_wp2_with fail
  go_loopg [9, 10] k (fun kq v9 v10 wr => ∃ (x y : Int), v9 = .int .i64 x ∧ v10 = .int .i64 y ∧ Aside0 (bsl k xs l1 kq x y = some i1) ∧ Aside0 (0 ≤ x ∧ x ≤ y ∧ y ≤ xs.length) ∧ Aside0 (Below w.heap.size w wr))
  case atStart => exact ⟨0, _, rfl, rfl, H1, ⟨by omega, by omega, by omega⟩, ⟨Below.refl _ _⟩⟩
  case round =>
    obtain ⟨x, y, rfl, rfl, HA, HL, HB⟩ := hrel
    clear H1
    cases gk with
    | zero => exact absurd HA.out (by simp [bsl])
    | succ k1 =>
      have H := HA.out
      clear HA
      simp only [bsl] at H
      have hl := HL.out
      by_cases hxy : x < y
      · rw [if_pos hxy] at H
        obtain ⟨cv, hcv, H⟩ := Option.bind_eq_some_iff.mp H
        have hd1 : decide (x < y) = true := decide_eq_true hxy
        obtain ⟨ad, Ae, ce, e, hxe, hle, hie⟩ := at_L5 (Kd.C_below HR.out HB.out) ((x + y) / 2) (by omega) (by omega)
        subst e
        have p1 : decide ((x + y) / 2 < (xs.length : Int)) = true := decide_eq_true (by omega)
        have p2 : decide (0 ≤ (x + y) / 2) = true := decide_eq_true (by omega)
        go_wp2_with fail
        refine (position_Compare.calls k Ae ce _ A1 c1 l1 cv _ hie hle (Kd.C_below HR1.out HB.out) HC1.out hcv).mono ?_
        rintro e w2 ⟨rfl, hdr⟩
        have HB2 := Aside0.mk (below_step HB.out hdr.below)
        by_cases hcv0 : cv < 0
        · have hd2 : decide (cv < 0) = true := decide_eq_true hcv0
          rw [if_pos hcv0] at H
          go_wp2
          go_roundg k1
          case measure => omega
          case rel => exact ⟨_, _, rfl, rfl, ⟨H⟩, ⟨by omega, by omega, by omega⟩, HB2⟩
        · have hd2 : decide (cv < 0) = false := decide_eq_false hcv0
          rw [if_neg hcv0] at H
          go_wp2
          go_roundg k1
          case measure => omega
          case rel => exact ⟨_, _, rfl, rfl, ⟨H⟩, ⟨by omega, by omega, by omega⟩, HB2⟩
      · rw [if_neg hxy] at H
        have hd1 : decide (x < y) = false := decide_eq_false hxy
        obtain rfl := Option.some.inj H
        by_cases hx : x < (xs.length : Int)
        · have hd2 : decide (x < (xs.length : Int)) = true := decide_eq_true hx
          have h2 := H2.out
          rw [if_pos hx] at h2
          obtain ⟨cv, hcv, h2⟩ := Option.bind_eq_some_iff.mp h2
          simp only [Option.some.injEq, Prod.mk.injEq] at h2
          obtain ⟨rfl, rfl⟩ := h2
          obtain ⟨ad, Ae, ce, e, hxe, hle, hie⟩ := at_L5 (Kd.C_below HR.out HB.out) x (by omega) (by omega)
          subst e
          have p2 : decide (0 ≤ x) = true := decide_eq_true (by omega)
          go_wp2_with fail
          refine (position_Compare.calls k Ae ce _ A1 c1 l1 cv _ hie hle (Kd.C_below HR1.out HB.out) HC1.out hcv).mono ?_
          rintro e w2 ⟨rfl, hdr⟩
          have HB2 := Aside0.mk (below_step HB.out hdr.below)
          go_wp2
          go_ret2
          exact ⟨rfl, HB2.out⟩
        · have hd2 : decide (x < (xs.length : Int)) = false := decide_eq_false hx
          have h2 := H2.out
          rw [if_neg hx] at h2
          simp at h2
          obtain ⟨rfl, rfl⟩ := h2
          go_wp2
          go_ret2
          exact ⟨rfl, HB.out⟩
end pod
end Go.Proofs.YtagkhoeidjlahaaDoor.G
namespace Go.Proofs.YtagkhoeidjlahaaDoor.G
open Go.RowKit Go.Proofs.YtagkhoeidjlahaaDoorW.PrintWords Go.Proofs.YtagkhoeidjlahaaDoorW.PrintLast Go.Proofs.YtagkhoeidjlahaaDoorW.PrintMore
attribute [local go_sem] max2_int min2_int max_two min_two max_three min_three max_four min_four
set_option linter.unusedVariables false
set_option linter.unusedSimpArgs false
def position_Index.f (k : Nat) (a0_0 : Int) (a0_1 : ByteArray) (a0_2 : Int) (l0_3 : List (S36)) (l1 : List Int) : Option (Int × Int) := (position_All.f k a0_0 a0_1 a0_2 l0_3).bind fun b => if b.2 = 0 then (bsf k b.1 l1).bind fun r => if r.2 = true then some (r.1, 0) else some (0, 2) else some (0, b.2)
theorem position_Index.calls (k : Nat) (a0_0 : Int) (a0_1 : ByteArray) (a0_2 : Int) (A0_3 : Option Addr) (c0_3 : Nat) (l0_3 : List (S36)) (A1 : Option Addr) (c1 : Nat) (l1 : List Int) (r1 : Int) (r2 : Int) (w : World) (hr0_3 : Kd.C k36 w A0_3 l0_3.length l0_3) (hc0_3 : l0_3.length ≤ c0_3) (hr1 : Kd.C (Kd.int .i64) w A1 l1.length l1) (hc1 : l1.length ≤ c1) (h : position_Index.f k a0_0 a0_1 a0_2 l0_3 l1 = some (r1, r2)) :
    Calls Tryd.prog 27 #[.agg #[.int .i64 a0_0, .string a0_1, .int .i64 a0_2, .slice A0_3 l0_3.length c0_3], .slice A1 l1.length c1] w fun e w' => e = .returned (.tuple #[.int .i64 r1, .int .i64 r2]) ∧ Below w.heap.size w w' := by
  have hu36 := Tryd.underlying36
  obtain ⟨⟨xs, e1⟩, hv, h⟩ := Option.bind_eq_some_iff.mp h
  have hm := hr0_3.2.1
  have HV := Aside0.mk hv
  have HR := Aside0.mk hr0_3
  have HC := Aside0.mk hc0_3
  have HR1 := Aside0.mk hr1
  have HC1 := Aside0.mk hc1
  have HB := Aside0.mk (below_alloc (Below.refl w.heap.size w) (.cells #[.int .i64 a0_0, .string a0_1, .int .i64 a0_2, .slice A0_3 l0_3.length c0_3] 36))
  clear hr0_3 hc0_3 hv hr1 hc1
  have HH := Aside0.mk h
  clear h
  go_enter Tryd.func27, Tryd.ntmps27
  go_wp2_with fail
  refine (position_All.calls k a0_0 a0_1 a0_2 A0_3 c0_3 l0_3 xs e1 _ (Kd.C_alloc HR.out _) HC.out HV.out).mono ?_
  rintro e w2 ⟨v0, rfl, hN, hb⟩
  obtain ⟨Ax, cx, rfl⟩ := Kd.N_slice hN
  have HN := Aside0.mk (Kd.N_reads' hN).2
  have HB2 := Aside0.mk (below_step HB.out hb)
  clear hb HB hN
  by_cases he : e1 = 0
  · subst he
    have h := HH.out
    rw [if_pos rfl] at h
    obtain ⟨⟨i, b⟩, hb, h⟩ := Option.bind_eq_some_iff.mp h
    have HBS := Aside0.mk hb
    clear hb
    go_wp2_with fail
    refine (bsf_calls k Ax cx xs A1 c1 l1 w2 HN.out.2 HN.out.1 (Kd.C_below HR1.out HB2.out) HC1.out i b HBS.out).mono ?_
    rintro e w3 ⟨rfl, hb3⟩
    have HB3 := Aside0.mk (below_step HB2.out hb3)
    clear hb3
    cases b with
    | false =>
      simp at h
      obtain ⟨rfl, rfl⟩ := h
      go_wp2
      go_ret2
      exact ⟨rfl, HB3.out⟩
    | true =>
      simp at h
      obtain ⟨rfl, rfl⟩ := h
      go_wp2
      go_ret2
      exact ⟨rfl, HB3.out⟩
  · have h := HH.out
    rw [if_neg he] at h
    simp at h
    obtain ⟨rfl, rfl⟩ := h
    have he2 : (e1 == 0) = false := beq_eq_false_iff_ne.mpr he
    have he3 : (e1 != 0) = true := bne_iff_ne.mpr he
    go_wp2
    go_ret2
    exact ⟨rfl, HB2.out⟩
end Go.Proofs.YtagkhoeidjlahaaDoor.G
namespace Go.Proofs.YtagkhoeidjlahaaDoor.G
open Go.RowKit Go.Proofs.YtagkhoeidjlahaaDoorW.PrintWords Go.Proofs.YtagkhoeidjlahaaDoorW.PrintLast Go.Proofs.YtagkhoeidjlahaaDoorW.PrintMore
attribute [local go_sem] max2_int min2_int max_two min_two max_three min_three max_four min_four
set_option linter.unusedVariables false
set_option linter.unusedSimpArgs false
mutual
def vinculumref10_Compare.l0 : Nat → List Int → List Int → Int → Option (Int)
  | 0, _, _, _ => none
  | k + 1, x0, x1, x5 => if x5 < (x0.length : Int) then (vinculumref10_Compare.j1 k x0 x1 x5 (decide (x5 < (x1.length : Int)))) else (vinculumref10_Compare.j1 k x0 x1 x5 false)
def vinculumref10_Compare.j1 : Nat → List Int → List Int → Int → Bool → Option (Int)
  | 0, _, _, _, _ => none
  | k + 1, x0, x1, x5, x15 => if x15 = true then (if 0 ≤ x5 then (if x5 < (x0.length : Int) then (if x5 < (x1.length : Int) then (if (rd x0 x5) < (rd x1 x5) then (some (-1)) else (if (rd x0 x5) > (rd x1 x5) then (some 1) else (vinculumref10_Compare.l0 k x0 x1 (wrap64 (x5 + 1))))) else (none)) else (none)) else (none)) else (if (x0.length : Int) < (x1.length : Int) then (some (-1)) else (if (x0.length : Int) > (x1.length : Int) then (some 1) else (some 0)))
end
def vinculumref10_Compare.f (k : Nat) (l0 : List Int) (l1 : List Int) : Option (Int) := vinculumref10_Compare.l0 k l0 l1 0
set_option maxHeartbeats 8000000 in
set_option maxRecDepth 100000 in
theorem vinculumref10_Compare.calls (k : Nat) (A0 : Option Addr) (c0 : Nat) (l0 : List Int) (A1 : Option Addr) (c1 : Nat) (l1 : List Int) (r : Int) (w : World) (hr0 : Kd.C (Kd.int .i64) w A0 l0.length l0) (hc0 : l0.length ≤ c0) (hr1 : Kd.C (Kd.int .i64) w A1 l1.length l1) (hc1 : l1.length ≤ c1) (h : vinculumref10_Compare.f k l0 l1 = some r) :
    Calls Tryd.prog 33 #[.slice A0 l0.length c0, .slice A1 l1.length c1] w fun e w' => e = .returned (.int .i64 r) ∧ Drawn0 w w' := by
  have HR0 := Aside0.mk hr0
  have HC0 := Aside0.mk hc0
  clear hr0 hc0
  have HR1 := Aside0.mk hr1
  have HC1 := Aside0.mk hc1
  clear hr1 hc1
  have H : (vinculumref10_Compare.l0 k l0 l1 0) = some r := h
  clear h
  have H' := Aside0.mk H
  clear H
  go_enter Tryd.func33, Tryd.ntmps33
  go_wp2
  repeat (go_quiet (fail); try go_wp2)
  go_loopg [5] k (fun kq v5 w' => ∃ (x5_1 : Int), v5 = .int .i64 x5_1 ∧ Aside0 (vinculumref10_Compare.l0 kq l0 l1 x5_1 = some r) ∧ Aside0 (kq ≤ k) ∧ Drawn0 w w')
  case atStart => exact ⟨(0), (by first | rfl | (simp; done) | (simp [*]; done)), H', ⟨Nat.le_refl _⟩, by repeat (first | exact Drawn0.refl _ | apply Drawn0.step)⟩
  case round =>
    clear H'
    try clear c1
    try clear p2
    obtain ⟨x5_1, rfl, HA, HK1, ⟨m1, rfl⟩⟩ := hrel
    cases gk with
    | zero => exact absurd HA.out (by simp [vinculumref10_Compare.l0])
    | succ k1 =>
      have H := HA.out
      clear HA
      simp only [vinculumref10_Compare.l0] at H
      have HC3 := Aside0.mk H
      clear H
      go_upto_region 2 with (fail)
      repeat (go_quiet (fail); go_upto_region 2 with (fail))
      go_cut [15] (fun v15 wc => ∃ (kq : Nat) (x15_2 : Bool), v15 = .bool x15_2 ∧ Aside0 (vinculumref10_Compare.j1 kq l0 l1 x5_1 x15_2 = some r) ∧ Aside0 (kq ≤ k1) ∧ Drawn0 w wc)
      case first =>
        have H := HC3.out
        clear HC3
        by_cases c4 : x5_1 < (l0.length : Int)
        · rw [if_pos c4] at H
          have c4b0 : decide (x5_1 < (l0.length : Int)) = true := decide_eq_true c4
          clear c4
          (first | rw [c4b0] | (simp only [i64_w, i32_w]; rw [c4b0]) | skip)
          have H' := Aside0.mk H
          clear H
          go_wp2
          repeat (go_quiet (fail); try go_wp2)
          go_meet
          case rel => exact ⟨_, (decide (x5_1 < (l1.length : Int))), (by first | rfl | (simp; done) | (simp [*]; done)), H', ⟨by have := HK1.out; first | omega | exact Nat.le_refl _⟩, by repeat (first | exact Drawn0.refl _ | apply Drawn0.step)⟩
        · rw [if_neg c4] at H
          have c4b0 : decide (x5_1 < (l0.length : Int)) = false := decide_eq_false c4
          clear c4
          (first | rw [c4b0] | (simp only [i64_w, i32_w]; rw [c4b0]) | skip)
          have H' := Aside0.mk H
          clear H
          go_wp2
          repeat (go_quiet (fail); try go_wp2)
          go_meet
          case rel => exact ⟨_, (false), (by first | rfl | (simp; done) | (simp [*]; done)), H', ⟨by have := HK1.out; first | omega | exact Nat.le_refl _⟩, by repeat (first | exact Drawn0.refl _ | apply Drawn0.step)⟩
      case rest =>
        clear HC3
        try clear c1
        try clear p2
        try clear c3
        try clear c4
        try clear c4b0
        try clear p2
        obtain ⟨kq, x15_2, rfl, HA, HJ2, ⟨mc2, rfl⟩⟩ := hcut
        cases kq with
        | zero => exact absurd HA.out (by simp [vinculumref10_Compare.j1])
        | succ kj2 =>
          have H := HA.out
          clear HA
          simp only [vinculumref10_Compare.j1] at H
          by_cases c5 : x15_2 = true
          · subst c5
            have H1 : (if 0 ≤ x5_1 then (if x5_1 < (l0.length : Int) then (if x5_1 < (l1.length : Int) then (if (rd l0 x5_1) < (rd l1 x5_1) then (some (-1)) else (if (rd l0 x5_1) > (rd l1 x5_1) then (some 1) else (vinculumref10_Compare.l0 kj2 l0 l1 (wrap64 (x5_1 + 1))))) else (none)) else (none)) else (none)) = some r := by rw [if_pos rfl] at H; exact H
            clear H
            have H := H1
            clear H1
            by_cases c6 : 0 ≤ x5_1
            · rw [if_pos c6] at H
              have c6b0 : decide (0 ≤ x5_1) = true := decide_eq_true c6
              clear c6
              by_cases c7 : x5_1 < (l0.length : Int)
              · rw [if_pos c7] at H
                have c7b0 : decide (x5_1 < (l0.length : Int)) = true := decide_eq_true c7
                clear c7
                by_cases c8 : x5_1 < (l1.length : Int)
                · rw [if_pos c8] at H
                  have c8b0 : decide (x5_1 < (l1.length : Int)) = true := decide_eq_true c8
                  clear c8
                  by_cases c9 : (rd l0 x5_1) < (rd l1 x5_1)
                  · rw [if_pos c9] at H
                    have c9b0 : decide ((rd l0 x5_1) < (rd l1 x5_1)) = true := decide_eq_true c9
                    clear c9
                    obtain rfl := Option.some.inj H
                    have p385 : 0 ≤ (x5_1 : Int) := of_decide_eq_true (by first | (with_reducible assumption) | assumption)
                    have q385 : x5_1 < (l0.length : Int) := of_decide_eq_true (by first | (with_reducible assumption) | assumption)
                    obtain ⟨ad385, e385, hx385_0⟩ := Kd.at_int HR0.out x5_1 p385 q385
                    cases e385
                    replace p385 := eq_true p385
                    replace q385 := eq_true q385
                    have p386 : 0 ≤ (x5_1 : Int) := of_decide_eq_true (by first | (with_reducible assumption) | assumption)
                    have q386 : x5_1 < (l1.length : Int) := of_decide_eq_true (by first | (with_reducible assumption) | assumption)
                    obtain ⟨ad386, e386, hx386_0⟩ := Kd.at_int HR1.out x5_1 p386 q386
                    cases e386
                    replace p386 := eq_true p386
                    replace q386 := eq_true q386
                    go_wp2
                    repeat (go_quiet (fail); try go_wp2)
                    go_ret
                    exact ⟨by first | rfl | (simp; done) | (simp [*]; done), by repeat (first | exact Drawn0.refl _ | apply Drawn0.step)⟩
                  · rw [if_neg c9] at H
                    have c9b0 : decide ((rd l0 x5_1) < (rd l1 x5_1)) = false := decide_eq_false c9
                    clear c9
                    by_cases c10 : (rd l0 x5_1) > (rd l1 x5_1)
                    · rw [if_pos c10] at H
                      have c10b0 : decide ((rd l1 x5_1) < (rd l0 x5_1)) = true := decide_eq_true c10
                      clear c10
                      obtain rfl := Option.some.inj H
                      have p385 : 0 ≤ (x5_1 : Int) := of_decide_eq_true (by first | (with_reducible assumption) | assumption)
                      have q385 : x5_1 < (l0.length : Int) := of_decide_eq_true (by first | (with_reducible assumption) | assumption)
                      obtain ⟨ad385, e385, hx385_0⟩ := Kd.at_int HR0.out x5_1 p385 q385
                      cases e385
                      replace p385 := eq_true p385
                      replace q385 := eq_true q385
                      have p386 : 0 ≤ (x5_1 : Int) := of_decide_eq_true (by first | (with_reducible assumption) | assumption)
                      have q386 : x5_1 < (l1.length : Int) := of_decide_eq_true (by first | (with_reducible assumption) | assumption)
                      obtain ⟨ad386, e386, hx386_0⟩ := Kd.at_int HR1.out x5_1 p386 q386
                      cases e386
                      replace p386 := eq_true p386
                      replace q386 := eq_true q386
                      have p387 : 0 ≤ (x5_1 : Int) := of_decide_eq_true (by first | (with_reducible assumption) | assumption)
                      have q387 : x5_1 < (l0.length : Int) := of_decide_eq_true (by first | (with_reducible assumption) | assumption)
                      obtain ⟨ad387, e387, hx387_0⟩ := Kd.at_int HR0.out x5_1 p387 q387
                      obtain rfl : ad385 = ad387 := (by injection e387)
                      replace p387 := eq_true p387
                      replace q387 := eq_true q387
                      have p388 : 0 ≤ (x5_1 : Int) := of_decide_eq_true (by first | (with_reducible assumption) | assumption)
                      have q388 : x5_1 < (l1.length : Int) := of_decide_eq_true (by first | (with_reducible assumption) | assumption)
                      obtain ⟨ad388, e388, hx388_0⟩ := Kd.at_int HR1.out x5_1 p388 q388
                      obtain rfl : ad386 = ad388 := (by injection e388)
                      replace p388 := eq_true p388
                      replace q388 := eq_true q388
                      go_wp2
                      repeat (go_quiet (fail); try go_wp2)
                      go_ret
                      exact ⟨by first | rfl | (simp; done) | (simp [*]; done), by repeat (first | exact Drawn0.refl _ | apply Drawn0.step)⟩
                    · rw [if_neg c10] at H
                      have c10b0 : decide ((rd l1 x5_1) < (rd l0 x5_1)) = false := decide_eq_false c10
                      clear c10
                      have H' := Aside0.mk H
                      clear H
                      have p385 : 0 ≤ (x5_1 : Int) := of_decide_eq_true (by first | (with_reducible assumption) | assumption)
                      have q385 : x5_1 < (l0.length : Int) := of_decide_eq_true (by first | (with_reducible assumption) | assumption)
                      obtain ⟨ad385, e385, hx385_0⟩ := Kd.at_int HR0.out x5_1 p385 q385
                      cases e385
                      replace p385 := eq_true p385
                      replace q385 := eq_true q385
                      have p386 : 0 ≤ (x5_1 : Int) := of_decide_eq_true (by first | (with_reducible assumption) | assumption)
                      have q386 : x5_1 < (l1.length : Int) := of_decide_eq_true (by first | (with_reducible assumption) | assumption)
                      obtain ⟨ad386, e386, hx386_0⟩ := Kd.at_int HR1.out x5_1 p386 q386
                      cases e386
                      replace p386 := eq_true p386
                      replace q386 := eq_true q386
                      have p387 : 0 ≤ (x5_1 : Int) := of_decide_eq_true (by first | (with_reducible assumption) | assumption)
                      have q387 : x5_1 < (l0.length : Int) := of_decide_eq_true (by first | (with_reducible assumption) | assumption)
                      obtain ⟨ad387, e387, hx387_0⟩ := Kd.at_int HR0.out x5_1 p387 q387
                      obtain rfl : ad385 = ad387 := (by injection e387)
                      replace p387 := eq_true p387
                      replace q387 := eq_true q387
                      have p388 : 0 ≤ (x5_1 : Int) := of_decide_eq_true (by first | (with_reducible assumption) | assumption)
                      have q388 : x5_1 < (l1.length : Int) := of_decide_eq_true (by first | (with_reducible assumption) | assumption)
                      obtain ⟨ad388, e388, hx388_0⟩ := Kd.at_int HR1.out x5_1 p388 q388
                      obtain rfl : ad386 = ad388 := (by injection e388)
                      replace p388 := eq_true p388
                      replace q388 := eq_true q388
                      go_wp2
                      repeat (go_quiet (fail); try go_wp2)
                      go_roundg kj2
                      case measure => have := HK1.out; have := HJ2.out; omega
                      case rel => exact ⟨(wrap64 (x5_1 + 1)), (by first | rfl | (simp; done) | (simp [*]; done)), H', ⟨by have := HK1.out; have := HJ2.out; omega⟩, by repeat (first | exact Drawn0.refl _ | apply Drawn0.step)⟩
                · rw [if_neg c8] at H
                  exact absurd H (by simp)
              · rw [if_neg c7] at H
                exact absurd H (by simp)
            · rw [if_neg c6] at H
              exact absurd H (by simp)
          · replace c5 := Bool.eq_false_iff.mpr c5
            subst c5
            have H1 : (if (l0.length : Int) < (l1.length : Int) then (some (-1)) else (if (l0.length : Int) > (l1.length : Int) then (some 1) else (some 0))) = some r := by rw [if_neg (show ¬ (false = true) by decide)] at H; exact H
            clear H
            have H := H1
            clear H1
            by_cases c11 : (l0.length : Int) < (l1.length : Int)
            · rw [if_pos c11] at H
              have c11b0 : decide ((l0.length : Int) < (l1.length : Int)) = true := decide_eq_true c11
              have c11b1 : decide (l0.length < l1.length) = true := decide_eq_true (Int.ofNat_lt.mp c11)
              clear c11
              obtain rfl := Option.some.inj H
              go_wp2
              repeat (go_quiet (fail); try go_wp2)
              go_ret
              exact ⟨by first | rfl | (simp; done) | (simp [*]; done), by repeat (first | exact Drawn0.refl _ | apply Drawn0.step)⟩
            · rw [if_neg c11] at H
              have c11b0 : decide ((l0.length : Int) < (l1.length : Int)) = false := decide_eq_false c11
              have c11b1 : decide (l0.length < l1.length) = false := decide_eq_false (fun h => c11 (Int.ofNat_lt.mpr h))
              clear c11
              by_cases c12 : (l0.length : Int) > (l1.length : Int)
              · rw [if_pos c12] at H
                have c12b0 : decide ((l1.length : Int) < (l0.length : Int)) = true := decide_eq_true c12
                have c12b1 : decide (l1.length < l0.length) = true := decide_eq_true (Int.ofNat_lt.mp c12)
                clear c12
                obtain rfl := Option.some.inj H
                go_wp2
                repeat (go_quiet (fail); try go_wp2)
                go_ret
                exact ⟨by first | rfl | (simp; done) | (simp [*]; done), by repeat (first | exact Drawn0.refl _ | apply Drawn0.step)⟩
              · rw [if_neg c12] at H
                have c12b0 : decide ((l1.length : Int) < (l0.length : Int)) = false := decide_eq_false c12
                have c12b1 : decide (l1.length < l0.length) = false := decide_eq_false (fun h => c12 (Int.ofNat_lt.mpr h))
                clear c12
                obtain rfl := Option.some.inj H
                go_wp2
                repeat (go_quiet (fail); try go_wp2)
                go_ret
                exact ⟨by first | rfl | (simp; done) | (simp [*]; done), by repeat (first | exact Drawn0.refl _ | apply Drawn0.step)⟩
end Go.Proofs.YtagkhoeidjlahaaDoor.G
namespace Go.Proofs.YtagkhoeidjlahaaDoor.G
open Go.RowKit Go.Proofs.YtagkhoeidjlahaaDoorW.PrintWords Go.Proofs.YtagkhoeidjlahaaDoorW.PrintLast Go.Proofs.YtagkhoeidjlahaaDoorW.PrintMore
attribute [local go_sem] max2_int min2_int max_two min_two max_three min_three max_four min_four
set_option linter.unusedVariables false
set_option linter.unusedSimpArgs false
def position_Valid.f (k : Nat) (a0_0 : Int) (a0_1 : ByteArray) (a0_2 : Int) (l0_3 : List (S36)) (l1 : List Int) : Option (Bool) := (position_Index.f k a0_0 a0_1 a0_2 l0_3 l1).bind fun bt612 => (some (bt612.2 == 0))
set_option maxHeartbeats 8000000 in
set_option maxRecDepth 100000 in
theorem position_Valid.calls (k : Nat) (a0_0 : Int) (a0_1 : ByteArray) (a0_2 : Int) (A0_3 : Option Addr) (c0_3 : Nat) (l0_3 : List (S36)) (A1 : Option Addr) (c1 : Nat) (l1 : List Int) (r : Bool) (w : World) (hr0_3 : Kd.C k36 w A0_3 l0_3.length l0_3) (hc0_3 : l0_3.length ≤ c0_3) (hr1 : Kd.C (Kd.int .i64) w A1 l1.length l1) (hc1 : l1.length ≤ c1) (h : position_Valid.f k a0_0 a0_1 a0_2 l0_3 l1 = some r) :
    Calls Tryd.prog 41 #[.agg #[.int .i64 a0_0, .string a0_1, .int .i64 a0_2, .slice A0_3 l0_3.length c0_3], .slice A1 l1.length c1] w fun e w' => e = .returned (.bool r) ∧ Below w.heap.size w w' := by
  have hu36 := Tryd.underlying36
  have HR0_3 := Aside0.mk hr0_3
  have HC0_3 := Aside0.mk hc0_3
  clear hr0_3 hc0_3
  have HR1 := Aside0.mk hr1
  have HC1 := Aside0.mk hc1
  clear hr1 hc1
  have HB := Aside0.mk (Below.refl w.heap.size w)
  have H : ((position_Index.f k a0_0 a0_1 a0_2 l0_3 l1).bind fun bt612 => (some (bt612.2 == 0))) = some r := h
  clear h
  replace H := Option.bind_eq_some_iff.mp H
  obtain ⟨⟨t612, t613⟩, A30, H⟩ := H
  replace H : (some (t613 == 0)) = some r := H
  have A3 := Aside0.mk A30
  clear A30
  obtain rfl := Option.some.inj H
  go_enter Tryd.func41, Tryd.ntmps41
  go_wp2_with (first | ((with_reducible refine gate_dst (N := 2) rfl ?_); refine box_event ?hg (N := 2) ?hd (cs := #[.int .i64 a0_0, .string a0_1, .int .i64 a0_2, .slice A0_3 l0_3.length c0_3]) (t := 36) ?hr ?_; (case hd => rfl); (case hg => rfl); (case hr => first | (go_simp; done) | (go_simp; rfl)); intro gb611 hg w4 hbox hb; have n0_ := Aside0.mk (below_step (by repeat (first | (with_reducible first | exact HB.out | apply below_alloc | apply pw_below_drewN | apply below_drew1) | exact HB.out)) hb); have n1_ := Aside0.mk (hbox); have n2_ := Aside0.mk ((by rw [hg]; exact (below_size (by repeat (first | (with_reducible first | exact HB.out | apply below_alloc | apply pw_below_drewN | apply below_drew1) | exact HB.out))) : w.heap.size ≤ gb611)); have n3_ := Aside0.mk ((by rw [hg]; exact (below_size (by repeat (first | (with_reducible first | exact HB.out | apply below_alloc | apply pw_below_drewN | apply below_drew1) | exact HB.out))) : w.heap.size ≤ gb611)); clear HB; have HB := n0_; have BK611 := n1_; have GW611 := n2_; have GE611 := n3_; clear n0_ n1_ n2_ n3_; clear hb hbox hg; have hcz5_0 : w4.cell? ⟨gb611, 0, none⟩ = some (.int .i64 a0_0) := (blk_cell BK611.out 0).trans rfl; have hcz5_1 : w4.cell? ⟨gb611, 1, none⟩ = some (.string a0_1) := (blk_cell BK611.out 1).trans rfl; have hcz5_2 : w4.cell? ⟨gb611, 2, none⟩ = some (.int .i64 a0_2) := (blk_cell BK611.out 2).trans rfl; have hcz5_3 : w4.cell? ⟨gb611, 3, none⟩ = some (.slice A0_3 l0_3.length c0_3) := (blk_cell BK611.out 3).trans rfl; have hfz5_0 := blk_frozen BK611.out 0; have hfz5_1 := blk_frozen BK611.out 1; have hfz5_2 := blk_frozen BK611.out 2; have hfz5_3 := blk_frozen BK611.out 3) | ((with_reducible refine gate_callee (f := 27) rfl ?_); refine goesL_ (some 10) rfl rfl Tryd.func27 (by kernel_rfl) rfl #[.agg #[.int .i64 a0_0, .string a0_1, .int .i64 a0_2, .slice A0_3 l0_3.length c0_3], .slice A1 l1.length c1] rfl (by (try simp only [List.map_toArray, List.map_cons, List.map_nil]); first | done | rfl | (simp only [List.length_drop, List.length_take]; rfl)) ?_; (with_reducible refine (position_Index.calls k a0_0 a0_1 a0_2 _ _ l0_3 _ _ l1 t612 t613 _ ?side1 ?side2 ?side3 ?side4 A3.out).mono ?_); (case side1 => repeat (first | exact (Kd.C_below HR0_3.out HB.out) | (with_reducible refine Kd.C_alloc ?_ _) | (with_reducible refine Kd.C_drewN ?_ _) | (with_reducible refine Kd.C_drew ?_))); (case side2 => exact HC0_3.out); (case side3 => repeat (first | exact (Kd.C_below HR1.out HB.out) | (with_reducible refine Kd.C_alloc ?_ _) | (with_reducible refine Kd.C_drewN ?_ _) | (with_reducible refine Kd.C_drew ?_))); (case side4 => exact HC1.out); rintro e w6 ⟨rfl, hb⟩; refine ⟨_, rfl, ?_⟩; have n0_ := Aside0.mk (blk_below (g := gb611) (o := .cells #[.int .i64 a0_0, .string a0_1, .int .i64 a0_2, .slice A0_3 l0_3.length c0_3] 36 (0, 0)) (by (with_reducible repeat (first | refine blk_drewN ?_ _ | refine blk_drew ?_ | refine blk_alloc ?_ _)); exact BK611.out) hb); have n1_ := Aside0.mk (below_step (by repeat (first | (with_reducible first | exact HB.out | apply below_alloc | apply pw_below_drewN | apply below_drew1 | refine below_set ?_ GE611.out) | exact HB.out)) hb); clear BK611; clear HB; have BK611 := n0_; have HB := n1_; clear n0_ n1_; (try clear hb); (try clear hb2); (try clear hk); (try clear hi)))
  go_ret
  exact ⟨by first | rfl | (simp [errW_none, errW_some] <;> rfl) | (simp [*, errW_none, errW_some] <;> rfl), by repeat (first | (with_reducible first | exact HB.out | apply below_alloc | apply pw_below_drewN | apply below_drew1 | refine below_set ?_ GE611.out) | exact HB.out)⟩
end Go.Proofs.YtagkhoeidjlahaaDoor.G
namespace Go.Proofs.YtagkhoeidjlahaaDoor.G
open Go.RowKit Go.Proofs.YtagkhoeidjlahaaDoorW.PrintWords Go.Proofs.YtagkhoeidjlahaaDoorW.PrintLast Go.Proofs.YtagkhoeidjlahaaDoorW.PrintMore
attribute [local go_sem] max2_int min2_int max_two min_two max_three min_three max_four min_four
set_option linter.unusedVariables false
set_option linter.unusedSimpArgs false
def vinculumref10_Same.f (k : Nat) (l0 : List Int) (l1 : List Int) : Option (Bool) := (vinculumref10_Compare.f k l0 l1).bind fun t389 => (some (t389 == 0))
set_option maxHeartbeats 8000000 in
set_option maxRecDepth 100000 in
theorem vinculumref10_Same.calls (k : Nat) (A0 : Option Addr) (c0 : Nat) (l0 : List Int) (A1 : Option Addr) (c1 : Nat) (l1 : List Int) (r : Bool) (w : World) (hr0 : Kd.C (Kd.int .i64) w A0 l0.length l0) (hc0 : l0.length ≤ c0) (hr1 : Kd.C (Kd.int .i64) w A1 l1.length l1) (hc1 : l1.length ≤ c1) (h : vinculumref10_Same.f k l0 l1 = some r) :
    Calls Tryd.prog 31 #[.slice A0 l0.length c0, .slice A1 l1.length c1] w fun e w' => e = .returned (.bool r) ∧ Drawn0 w w' := by
  have HR0 := Aside0.mk hr0
  have HC0 := Aside0.mk hc0
  clear hr0 hc0
  have HR1 := Aside0.mk hr1
  have HC1 := Aside0.mk hc1
  clear hr1 hc1
  have H : ((vinculumref10_Compare.f k l0 l1).bind fun t389 => (some (t389 == 0))) = some r := h
  clear h
  replace H := Option.bind_eq_some_iff.mp H
  obtain ⟨t389, A30, H⟩ := H
  replace H : (some (t389 == 0)) = some r := H
  have A3 := Aside0.mk A30
  clear A30
  obtain rfl := Option.some.inj H
  go_enter Tryd.func31, Tryd.ntmps31
  go_wp2_with (first | ((with_reducible refine gate_callee (f := 33) rfl ?_); refine goesL_ (some 7) rfl rfl Tryd.func33 (by kernel_rfl) rfl #[.slice A0 l0.length c0, .slice A1 l1.length c1] rfl (by (try simp only [List.map_toArray, List.map_cons, List.map_nil]); first | done | rfl | (simp only [List.length_drop, List.length_take]; rfl)) ?_; (with_reducible refine (vinculumref10_Compare.calls k _ _ l0 _ _ l1 t389 _ ?side1 ?side2 ?side3 ?side4 A3.out).mono ?_); (case side1 => repeat (first | exact HR0.out | (with_reducible refine Kd.C_alloc ?_ _) | (with_reducible refine Kd.C_drewN ?_ _) | (with_reducible refine Kd.C_drew ?_))); (case side2 => exact HC0.out); (case side3 => repeat (first | exact HR1.out | (with_reducible refine Kd.C_alloc ?_ _) | (with_reducible refine Kd.C_drewN ?_ _) | (with_reducible refine Kd.C_drew ?_))); (case side4 => exact HC1.out); rintro e w' ⟨rfl, ⟨nd, rfl⟩⟩; refine ⟨_, rfl, ?_⟩))
  go_ret
  exact ⟨by first | rfl | (simp; done) | (simp [*]; done), by repeat (first | exact Drawn0.refl _ | apply Drawn0.step)⟩
end Go.Proofs.YtagkhoeidjlahaaDoor.G
namespace Go.Proofs.YtagkhoeidjlahaaDoor.G.Pure
open Go.Proofs.YtagkhoeidjlahaaDoorW.PrintWords Go.RowKit
set_option linter.unusedVariables false
set_option linter.unusedSimpArgs false
def cmpL : List Int → List Int → Int
  | [], [] => 0
  | [], _ :: _ => -1
  | _ :: _, [] => 1
  | a :: al, b :: bl => if a < b then -1 else if b < a then 1 else cmpL al bl
theorem cmpL_self : ∀ a, cmpL a a = 0
  | [] => rfl
  | a :: al => by rw [cmpL, if_neg (by omega), if_neg (by omega)]; exact cmpL_self al
theorem cmpL_zero : ∀ {a b}, cmpL a b = 0 → a = b
  | [], [], _ => rfl
  | [], _ :: _, h => by simp [cmpL] at h
  | _ :: _, [], h => by simp [cmpL] at h
  | a :: al, b :: bl, h => by
    rw [cmpL] at h
    split at h
    · simp at h
    · split at h
      · simp at h
      · rw [cmpL_zero h, show a = b by omega]
theorem cmpL_neg : ∀ a b, cmpL b a = - cmpL a b
  | [], [] => rfl
  | [], _ :: _ => rfl
  | _ :: _, [] => rfl
  | a :: al, b :: bl => by
    rw [cmpL, cmpL]
    rcases Int.lt_trichotomy a b with h | h | h
    · rw [if_neg (by omega), if_pos h, if_pos h]; rfl
    · rw [if_neg (by omega), if_neg (by omega), if_neg (by omega), if_neg (by omega)]; exact cmpL_neg al bl
    · rw [if_pos h, if_neg (by omega), if_pos h]
theorem cmpL_trans : ∀ a b c, cmpL a b < 0 → cmpL b c < 0 → cmpL a c < 0
  | [], [], _, h, _ => by simp [cmpL] at h
  | [], _ :: _, [], _, h => by simp [cmpL] at h
  | [], _ :: _, _ :: _, _, _ => by simp [cmpL]
  | _ :: _, [], _, h, _ => by simp [cmpL] at h
  | _ :: _, _ :: _, [], _, h => by simp [cmpL] at h
  | a :: al, b :: bl, c :: cl, h, k => by
    rw [cmpL] at h k ⊢
    rcases Int.lt_trichotomy a b with h1 | h1 | h1
    · rcases Int.lt_trichotomy b c with h2 | h2 | h2
      · rw [if_pos (by omega)]; decide
      · rw [if_pos (by omega)]; decide
      · rw [if_neg (by omega), if_pos h2] at k; simp at k
    · rw [if_neg (by omega), if_neg (by omega)] at h
      rcases Int.lt_trichotomy b c with h2 | h2 | h2
      · rw [if_pos (by omega)]; decide
      · rw [if_neg (by omega), if_neg (by omega)] at k ⊢; exact cmpL_trans al bl cl h k
      · rw [if_neg (by omega), if_pos h2] at k; simp at k
    · rw [if_neg (by omega), if_pos h1] at h; simp at h
theorem cmpL_app : ∀ p a b, cmpL (p ++ a) (p ++ b) = cmpL a b
  | [], a, b => rfl
  | x :: p, a, b => by rw [List.cons_append, List.cons_append, cmpL, if_neg (by omega), if_neg (by omega)]; exact cmpL_app p a b
theorem rd_at (l : List Int) (i : Nat) (h : i < l.length) : rd l i = l[i] := by simp [rd, h]
theorem cmpI_eq (a b : Int) : cmp_Compare_int.f a b = some (if a < b then -1 else if b < a then 1 else 0) := by
  unfold cmp_Compare_int.f cmp_isNaN_int.f
  simp
  split
  · rfl
  · split <;> rfl
theorem pCmp_l (a b : List Int) (ha : a.length ≤ M) : ∀ (m i : Nat), a.length - i = m → i ≤ a.length → Ev (fun k => slices_Compare_int_int.l0 k a b a a.length i) (cmpL (a.drop i) (b.drop i)) := by
  intro m
  unfold M at ha
  induction m with
  | zero =>
    intro i hi hi2
    refine Ev.step (fun k => by rw [slices_Compare_int_int.l0]) ?_
    refine ev_if (fun h => by omega) fun _ => ?_
    rw [List.drop_eq_nil_of_le (by omega)]
    refine ev_if (fun h => ev_now ?_) fun h => ev_now ?_
    · rw [List.drop_eq_getElem_cons (show i < b.length by omega), cmpL]
    · rw [List.drop_eq_nil_of_le (by omega), cmpL]
  | succ m ih =>
    intro i hi hi2
    have hil : i < a.length := by omega
    refine Ev.step (fun k => by rw [slices_Compare_int_int.l0]) ?_
    refine ev_if (fun _ => ?_) fun h => by omega
    refine ev_if (fun _ => ?_) fun h => by omega
    refine ev_if (fun _ => ?_) fun h => by omega
    rw [List.drop_eq_getElem_cons hil]
    refine ev_if (fun h => ev_now ?_) fun h => ?_
    · rw [List.drop_eq_nil_of_le (show b.length ≤ i by omega), cmpL]
    · refine ev_if (fun _ => ?_) fun h => by omega
      rw [List.drop_eq_getElem_cons (show i < b.length by omega), cmpL, rd_at a i hil, rd_at b i (by omega), cmpI_eq]
      refine ev_bind (Ev.now _) ?_
      rcases Int.lt_trichotomy a[i] b[i] with h1 | h1 | h1
      · rw [if_pos h1, if_pos h1]; exact ev_if (fun h => by simp at h) fun _ => Ev.now _
      · rw [if_neg (by omega), if_neg (by omega), if_neg (by omega), if_neg (by omega)]
        refine ev_if (fun _ => ?_) fun h => absurd rfl h
        rw [wr (n := (i : Int) + 1) (by omega)]
        have := ih (i + 1) (by omega) (by omega)
        exact_mod_cast this
      · rw [if_neg (by omega), if_pos h1, if_neg (by omega), if_pos h1]; exact ev_if (fun h => by simp at h) fun _ => Ev.now _
theorem pCmp_ev (a b : List Int) (ha : a.length ≤ M) : Ev (fun k => position_Compare.f k a b) (cmpL a b) := by
  unfold position_Compare.f slices_Compare_int_int.f
  have := pCmp_l a b ha a.length 0 rfl (by omega)
  exact ev_bind (by simpa using this) (Ev.now _)
theorem rCmp_l (a b : List Int) (ha : a.length ≤ M) : ∀ (m i : Nat), a.length - i = m → i ≤ a.length → i ≤ b.length → Ev (fun k => vinculumref10_Compare.l0 k a b i) (cmpL (a.drop i) (b.drop i)) := by
  intro m
  unfold M at ha
  have last : ∀ i : Nat, i ≤ a.length → i ≤ b.length → (i = a.length ∨ i = b.length) → Ev (fun k => vinculumref10_Compare.j1 k a b i false) (cmpL (a.drop i) (b.drop i)) := by
    intro i h1 h2 h3
    refine Ev.step (fun k => by rw [vinculumref10_Compare.j1]) ?_
    refine ev_if (fun h => by cases h) fun _ => ?_
    rcases Nat.lt_trichotomy a.length b.length with h | h | h
    · refine ev_if (fun _ => ev_now ?_) fun h' => by omega
      rw [List.drop_eq_nil_of_le (show a.length ≤ i by omega), List.drop_eq_getElem_cons (show i < b.length by omega), cmpL]
    · refine ev_if (fun h' => by omega) fun _ => ?_
      refine ev_if (fun h' => by omega) fun _ => ev_now ?_
      rw [List.drop_eq_nil_of_le (show a.length ≤ i by omega), List.drop_eq_nil_of_le (show b.length ≤ i by omega), cmpL]
    · refine ev_if (fun h' => by omega) fun _ => ?_
      refine ev_if (fun _ => ev_now ?_) fun h' => by omega
      rw [List.drop_eq_nil_of_le (show b.length ≤ i by omega), List.drop_eq_getElem_cons (show i < a.length by omega), cmpL]
  induction m with
  | zero =>
    intro i hi hi2 hi3
    refine Ev.step (fun k => by rw [vinculumref10_Compare.l0]) ?_
    refine ev_if (fun h => by omega) fun _ => ?_
    exact last i hi2 hi3 (.inl (by omega))
  | succ m ih =>
    intro i hi hi2 hi3
    have hil : i < a.length := by omega
    refine Ev.step (fun k => by rw [vinculumref10_Compare.l0]) ?_
    refine ev_if (fun _ => ?_) fun h => by omega
    by_cases hb : i < b.length
    · rw [decide_eq_true (show (i : Int) < (b.length : Int) by omega)]
      refine Ev.step (fun k => by rw [vinculumref10_Compare.j1]) ?_
      refine ev_if (fun _ => ?_) fun h => absurd rfl h
      refine ev_if (fun _ => ?_) fun h => by omega
      refine ev_if (fun _ => ?_) fun h => by omega
      refine ev_if (fun _ => ?_) fun h => by omega
      rw [List.drop_eq_getElem_cons hil, List.drop_eq_getElem_cons hb, cmpL, rd_at a i hil, rd_at b i hb]
      refine ev_if (fun h => ev_now ?_) fun h1 => ?_
      · rw [if_pos h]
      rw [if_neg h1]
      refine ev_if (fun h => ev_now ?_) fun h2 => ?_
      · rw [if_pos (by omega)]
      rw [if_neg (by omega), wr (n := (i : Int) + 1) (by omega)]
      have := ih (i + 1) (by omega) (by omega) (by omega)
      exact_mod_cast this
    · rw [decide_eq_false (show ¬ (i : Int) < (b.length : Int) by omega)]
      exact last i hi2 hi3 (.inr (by omega))
theorem rCmp_ev (a b : List Int) (ha : a.length ≤ M) : Ev (fun k => vinculumref10_Compare.f k a b) (cmpL a b) := by
  unfold vinculumref10_Compare.f
  have := rCmp_l a b ha a.length 0 rfl (by omega) (by omega)
  simpa using this
theorem same_ev (a b : List Int) (ha : a.length ≤ M) : Ev (fun k => vinculumref10_Same.f k a b) (cmpL a b == 0) := by
  unfold vinculumref10_Same.f
  exact ev_bind (rCmp_ev a b ha) (Ev.now _)
theorem same_self (a : List Int) (ha : a.length ≤ M) : Ev (fun k => vinculumref10_Same.f k a a) true := by
  have := same_ev a a ha
  rw [cmpL_self] at this
  exact this
mutual
theorem kids_mem : ∀ (p : List Int) (i : Int) (l : List S36) (q : List Int), q ∈ posKids p i l → ∃ j r, q = p ++ j :: r ∧ i ≤ j
  | p, i, [], q, h => by
    rw [posKids, List.mem_singleton] at h
    exact ⟨i, [], h, Int.le_refl _⟩
  | p, i, x :: l, q, h => by
    rw [posKids, List.mem_cons, List.mem_append] at h
    rcases h with h | h | h
    · exact ⟨i, [], h, Int.le_refl _⟩
    · obtain ⟨s, r, h2⟩ := item_mem p i x q h
      exact ⟨i, s :: r, h2, Int.le_refl _⟩
    · obtain ⟨j, r, h2, h3⟩ := kids_mem p (i + 1) l q h
      exact ⟨j, r, h2, by omega⟩
theorem item_mem : ∀ (p : List Int) (i : Int) (x : S36) (q : List Int), q ∈ posItem p i x → ∃ s r, q = p ++ i :: s :: r
  | p, i, ⟨_, _, _, l⟩, q, h => by
    rw [posItem] at h
    obtain ⟨s, r, h2, _⟩ := slots_mem p i 0 l q h
    exact ⟨s, r, h2⟩
theorem slots_mem : ∀ (p : List Int) (i s : Int) (l : List S36) (q : List Int), q ∈ posSlots p i s l → ∃ t r, q = p ++ i :: t :: r ∧ s ≤ t
  | p, i, s, [], q, h => by simp [posSlots] at h
  | p, i, s, y :: l, q, h => by
    rw [posSlots, List.mem_append] at h
    rcases h with h | h
    · obtain ⟨r, h2⟩ := slot_mem (p ++ [i, s]) y q h
      exact ⟨s, r, by rw [h2]; simp, Int.le_refl _⟩
    · obtain ⟨t, r, h2, h3⟩ := slots_mem p i (s + 1) l q h
      exact ⟨t, r, h2, by omega⟩
theorem slot_mem : ∀ (p : List Int) (y : S36) (q : List Int), q ∈ posSlot p y → ∃ r, q = p ++ r
  | p, ⟨_, _, _, l⟩, q, h => by
    rw [posSlot] at h
    obtain ⟨j, r, h2, _⟩ := kids_mem p 0 l q h
    exact ⟨j :: r, h2⟩
end
def Srt (l : List (List Int)) : Prop := l.Pairwise fun a b => cmpL a b < 0
mutual
theorem kids_srt : ∀ (p : List Int) (i : Int) (l : List S36), Srt (posKids p i l)
  | p, i, [] => by rw [posKids]; exact List.pairwise_singleton _ _
  | p, i, x :: l => by
    rw [posKids]
    refine List.pairwise_cons.2 ⟨fun q h => ?_, List.pairwise_append.2 ⟨item_srt p i x, kids_srt p (i + 1) l, fun a ha b hb => ?_⟩⟩
    · rcases List.mem_append.1 h with h | h
      · obtain ⟨s, r, rfl⟩ := item_mem p i x q h
        rw [cmpL_app, cmpL, if_neg (by omega), if_neg (by omega)]; simp [cmpL]
      · obtain ⟨j, r, rfl, h2⟩ := kids_mem p (i + 1) l q h
        rw [cmpL_app, cmpL, if_pos (by omega)]; decide
    · obtain ⟨s, r, rfl⟩ := item_mem p i x a ha
      obtain ⟨j, r2, rfl, h2⟩ := kids_mem p (i + 1) l b hb
      rw [cmpL_app, cmpL, if_pos (by omega)]; decide
theorem item_srt : ∀ (p : List Int) (i : Int) (x : S36), Srt (posItem p i x)
  | p, i, ⟨_, _, _, l⟩ => by rw [posItem]; exact slots_srt p i 0 l
theorem slots_srt : ∀ (p : List Int) (i s : Int) (l : List S36), Srt (posSlots p i s l)
  | p, i, s, [] => by rw [posSlots]; exact List.Pairwise.nil
  | p, i, s, y :: l => by
    rw [posSlots]
    refine List.pairwise_append.2 ⟨slot_srt (p ++ [i, s]) y, slots_srt p i (s + 1) l, fun a ha b hb => ?_⟩
    obtain ⟨r, rfl⟩ := slot_mem (p ++ [i, s]) y a ha
    obtain ⟨t, r2, rfl, h2⟩ := slots_mem p i (s + 1) l b hb
    rw [List.append_assoc, cmpL_app]
    simp only [List.cons_append, List.nil_append]
    rw [cmpL, if_neg (by omega), if_neg (by omega), cmpL, if_pos (by omega)]; decide
theorem slot_srt : ∀ (p : List Int) (y : S36), Srt (posSlot p y)
  | p, ⟨_, _, _, l⟩ => by rw [posSlot]; exact kids_srt p 0 l
end
theorem srt_lt {l : List (List Int)} (h : Srt l) {i j : Nat} (hij : i < j) (hj : j < l.length) : cmpL (l[i]'(by omega)) l[j] < 0 := List.pairwise_iff_getElem.1 h i j (by omega) hj hij
end Go.Proofs.YtagkhoeidjlahaaDoor.G.Pure
namespace Go.Proofs.YtagkhoeidjlahaaDoor.G.Pure
open Go.Proofs.YtagkhoeidjlahaaDoorW.PrintWords Go.RowKit
set_option linter.unusedVariables false
set_option linter.unusedSimpArgs false
def xsOf (x : S36) : List (List Int) := posKids [] 0 x.f3
def allB (x : S36) : List (List Int) × Int := if validB x = true then (xsOf x, 0) else ([], 1)
theorem xs_le (x : S36) : (xsOf x).length ≤ 2 * cnt x := by
  have := posKids_len [] 0 x.f3
  have e := cnt_eq x
  unfold xsOf; omega
theorem pAll_ev (x : S36) (hx : OkNode x) : Ev (fun k => position_All.f k x.f0 x.f1 x.f2 x.f3) (allB x) := by
  unfold position_All.f allB
  refine Ev.bind (f := fun _ v => if v = true then some (posKids [] 0 x.f3, 0) else some ([], 1)) (nValid_ev x hx) ?_
  exact ev_if (fun h => ev_now (by rw [if_pos h]; rfl)) fun h => ev_now (by rw [if_neg h])
def idxF (pos : List Int) : List (List Int) → Int → Int × Int
  | [], _ => (0, 2)
  | q :: qs, i => if cmpL q pos = 0 then (i, 0) else idxF pos qs (i + 1)
def idxB (x : S36) (pos : List Int) : Int × Int := if validB x = true then idxF pos (xsOf x) 0 else (0, 1)
theorem rdL_at (l : List (List Int)) (i : Nat) (h : i < l.length) : rd_L5 l i = l[i] := by simp [rd_L5, h]
def Short (xs : List (List Int)) : Prop := ∀ q ∈ xs, q.length ≤ M
mutual
theorem kids_short : ∀ (p : List Int) (i : Int) (l : List S36) (q : List Int), q ∈ posKids p i l → q.length ≤ p.length + 1 + 2 * cntL l
  | p, i, [], q, h => by rw [posKids, List.mem_singleton] at h; subst h; simp
  | p, i, x :: l, q, h => by
    rw [posKids, List.mem_cons, List.mem_append] at h
    rw [cntL]
    rcases h with h | h | h
    · subst h; simp
    · have := item_short p i x q h; omega
    · have := kids_short p (i + 1) l q h; omega
theorem item_short : ∀ (p : List Int) (i : Int) (x : S36) (q : List Int), q ∈ posItem p i x → q.length ≤ p.length + 1 + 2 * cnt x
  | p, i, ⟨_, _, _, l⟩, q, h => by
    rw [posItem] at h
    have := slots_short p i 0 l q h
    rw [cnt]; omega
theorem slots_short : ∀ (p : List Int) (i s : Int) (l : List S36) (q : List Int), q ∈ posSlots p i s l → q.length ≤ p.length + 1 + 2 * cntL l
  | p, i, s, [], q, h => by simp [posSlots] at h
  | p, i, s, y :: l, q, h => by
    rw [posSlots, List.mem_append] at h
    rw [cntL]
    rcases h with h | h
    · have := slot_short (p ++ [i, s]) y q h
      simp only [List.length_append, List.length_cons, List.length_nil] at this
      omega
    · have := slots_short p i (s + 1) l q h; omega
theorem slot_short : ∀ (p : List Int) (y : S36) (q : List Int), q ∈ posSlot p y → q.length + 1 ≤ p.length + 2 * cnt y
  | p, ⟨_, _, _, l⟩, q, h => by
    rw [posSlot] at h
    have := kids_short p 0 l q h
    rw [cnt]; omega
end
theorem xs_short (x : S36) (hc : cnt x ≤ 100000) : Short (xsOf x) := fun q h => by
  have := kids_short [] 0 x.f3 q h
  have e := cnt_eq x
  unfold M
  simp at this
  omega
def Low (xs : List (List Int)) (pos : List Int) (r : Nat) : Prop := r ≤ xs.length ∧ (∀ t (h : t < xs.length), t < r → cmpL xs[t] pos < 0) ∧ ∀ t (h : t < xs.length), r ≤ t → ¬ cmpL xs[t] pos < 0
theorem bsl_low (xs : List (List Int)) (pos : List Int) (hsr : Srt xs) (hs : Short xs) (hl : xs.length ≤ 1000000) : ∀ (n i j : Nat), j - i ≤ n → i ≤ j → j ≤ xs.length → (∀ t (h : t < xs.length), t < i → cmpL xs[t] pos < 0) → (∀ t (h : t < xs.length), j ≤ t → ¬ cmpL xs[t] pos < 0) →
    ∃ r, Low xs pos r ∧ ∃ K, ∀ k, K ≤ k → ∀ q, n + 1 ≤ q → bsl k xs pos q i j = some (r : Int) := by
  intro n
  induction n with
  | zero =>
    intro i j h1 h2 h3 h4 h5
    obtain rfl : i = j := by omega
    refine ⟨i, ⟨h3, h4, h5⟩, 0, fun k _ q hq => ?_⟩
    obtain ⟨q, rfl⟩ : ∃ q', q = q' + 1 := ⟨q - 1, by omega⟩
    rw [bsl, if_neg (by omega)]
  | succ n ih =>
    intro i j h1 h2 h3 h4 h5
    by_cases hij : i < j
    · have hm : ((i : Int) + (j : Int)) / 2 = (((i + j) / 2 : Nat) : Int) := by omega
      have hml : (i + j) / 2 < xs.length := by omega
      obtain ⟨K0, hK0'⟩ := pCmp_ev xs[(i + j) / 2] pos (hs _ (List.getElem_mem hml))
      have hK0 : ∀ k, K0 ≤ k → position_Compare.f k xs[(i + j) / 2] pos = some (cmpL xs[(i + j) / 2] pos) := hK0'
      by_cases hc : cmpL xs[(i + j) / 2] pos < 0
      · obtain ⟨r, hr, K, hK⟩ := ih ((i + j) / 2 + 1) j (by omega) (by omega) h3 (fun t ht hlt => by
          rcases Nat.lt_or_ge t ((i + j) / 2) with h | h
          · exact cmpL_trans _ _ _ (srt_lt hsr h hml) hc
          · obtain rfl : t = (i + j) / 2 := by omega
            exact hc) h5
        refine ⟨r, hr, max K0 K, fun k hk q hq => ?_⟩
        obtain ⟨q, rfl⟩ : ∃ q', q = q' + 1 := ⟨q - 1, by omega⟩
        rw [bsl, if_pos (by omega), hm, rdL_at _ _ hml, hK0 k (by omega)]
        simp only [Option.bind_some]
        rw [if_pos hc]
        have := hK k (by omega) q (by omega)
        exact_mod_cast this
      · obtain ⟨r, hr, K, hK⟩ := ih i ((i + j) / 2) (by omega) (by omega) (by omega) h4 (fun t ht hlt hneg => by
          rcases Nat.eq_or_lt_of_le hlt with h | h
          · subst h; exact hc hneg
          · exact hc (cmpL_trans _ _ _ (srt_lt hsr h ht) hneg))
        refine ⟨r, hr, max K0 K, fun k hk q hq => ?_⟩
        obtain ⟨q, rfl⟩ : ∃ q', q = q' + 1 := ⟨q - 1, by omega⟩
        rw [bsl, if_pos (by omega), hm, rdL_at _ _ hml, hK0 k (by omega)]
        simp only [Option.bind_some]
        rw [if_neg hc]
        exact hK k (by omega) q (by omega)
    · obtain rfl : i = j := by omega
      refine ⟨i, ⟨h3, h4, h5⟩, 0, fun k _ q hq => ?_⟩
      obtain ⟨q, rfl⟩ : ∃ q', q = q' + 1 := ⟨q - 1, by omega⟩
      rw [bsl, if_neg (by omega)]
theorem idxF_none (pos : List Int) : ∀ (l : List (List Int)) (i : Int), (∀ q ∈ l, cmpL q pos ≠ 0) → idxF pos l i = (0, 2)
  | [], i, _ => rfl
  | q :: l, i, h => by rw [idxF, if_neg (h q (by simp))]; exact idxF_none pos l (i + 1) fun x hx => h x (by simp [hx])
theorem idxF_at (pos : List Int) : ∀ (l : List (List Int)) (i : Int) (r : Nat) (h : r < l.length), (∀ t (ht : t < r), cmpL (l[t]'(by omega)) pos ≠ 0) → cmpL l[r] pos = 0 → idxF pos l i = (i + r, 0)
  | q :: l, i, 0, h, _, h2 => by rw [idxF, if_pos (show cmpL q pos = 0 from h2)]; simp
  | q :: l, i, r + 1, h, h1, h2 => by
    rw [idxF, if_neg (show ¬ cmpL q pos = 0 from h1 0 (by omega))]
    rw [idxF_at pos l (i + 1) r (by simpa using h) (fun t ht => h1 (t + 1) (by omega)) h2]
    push_cast
    simp; omega
theorem low_idx (xs : List (List Int)) (pos : List Int) (hsr : Srt xs) (r : Nat) (h : Low xs pos r) : idxF pos xs 0 = if hr : r < xs.length then (if cmpL xs[r] pos = 0 then ((r : Int), 0) else (0, 2)) else (0, 2) := by
  obtain ⟨h1, h2, h3⟩ := h
  by_cases hr : r < xs.length
  · rw [dif_pos hr]
    by_cases hc : cmpL xs[r] pos = 0
    · rw [if_pos hc, idxF_at pos xs 0 r hr (fun t ht => by have := h2 t (by omega) ht; omega) hc]; simp
    · rw [if_neg hc]
      refine idxF_none pos xs 0 fun q hq => ?_
      obtain ⟨t, ht, rfl⟩ := List.getElem_of_mem hq
      rcases Nat.lt_trichotomy t r with h | h | h
      · have := h2 t ht h; omega
      · subst h; exact hc
      · have a1 := h3 r hr (Nat.le_refl _)
        have a2 := cmpL_neg xs[r] pos
        have a3 := srt_lt hsr h ht
        intro he
        have := cmpL_zero he
        rw [this] at a3
        exact a1 a3
  · rw [dif_neg hr]
    refine idxF_none pos xs 0 fun q hq => ?_
    obtain ⟨t, ht, rfl⟩ := List.getElem_of_mem hq
    have := h2 t ht (by omega); omega
theorem bsf_ev (xs : List (List Int)) (pos : List Int) (hsr : Srt xs) (hs : Short xs) (hl : xs.length ≤ 1000000) : ∃ (i : Int) (b : Bool), Ev (fun k => bsf k xs pos) (i, b) ∧ idxF pos xs 0 = if b = true then (i, 0) else (0, 2) := by
  obtain ⟨r, hr, K, hK⟩ := bsl_low xs pos hsr hs hl xs.length 0 xs.length (by omega) (by omega) (by omega) (fun t h h' => by omega) (fun t h h' => by omega)
  have hlow := low_idx xs pos hsr r hr
  have e1 : Ev (fun k => bsl k xs pos k 0 (xs.length : Int)) (r : Int) := ⟨max K (xs.length + 1), fun k hk => hK k (by omega) k (by omega)⟩
  unfold bsf
  by_cases hrl : r < xs.length
  · rw [dif_pos hrl] at hlow
    refine ⟨r, cmpL xs[r] pos == 0, ?_, ?_⟩
    · refine ev_if (fun _ => ?_) fun h => by omega
      refine Ev.bind (f := fun k i => if i < (xs.length : Int) then (position_Compare.f k (rd_L5 xs i) pos).bind fun c => some (i, c == 0) else some (i, false)) e1 ?_
      refine ev_if (fun _ => ?_) fun h => by omega
      rw [rdL_at _ _ hrl]
      exact Ev.bind (f := fun _ c => some ((r : Int), c == 0)) (pCmp_ev _ _ (hs _ (List.getElem_mem hrl))) (Ev.now _)
    · rw [hlow]
      by_cases hc : cmpL xs[r] pos = 0
      · rw [if_pos hc, if_pos (by simpa using hc)]
      · rw [if_neg hc, if_neg (by simpa using hc)]
  · rw [dif_neg hrl] at hlow
    refine ⟨r, false, ?_, by rw [hlow]; rfl⟩
    refine ev_if (fun _ => ?_) fun h => by omega
    refine Ev.bind (f := fun k i => if i < (xs.length : Int) then (position_Compare.f k (rd_L5 xs i) pos).bind fun c => some (i, c == 0) else some (i, false)) e1 ?_
    exact ev_if (fun h => by omega) fun _ => Ev.now _
theorem pIndex_ev (x : S36) (hx : OkNode x) (hc : cnt x ≤ 100000) (pos : List Int) : Ev (fun k => position_Index.f k x.f0 x.f1 x.f2 x.f3 pos) (idxB x pos) := by
  unfold position_Index.f idxB
  refine Ev.bind (f := fun k b => if b.2 = 0 then (bsf k b.1 pos).bind fun r => if r.2 = true then some (r.1, 0) else some (0, 2) else some (0, b.2)) (pAll_ev x hx) ?_
  unfold allB
  have hle := xs_le x
  cases hv : validB x with
  | true =>
    simp only [if_true]
    obtain ⟨i, b, e1, e2⟩ := bsf_ev (xsOf x) pos (kids_srt _ _ _) (xs_short x hc) (by omega)
    rw [e2]
    refine Ev.bind (f := fun _ (r : Int × Bool) => if r.2 = true then some (r.1, (0 : Int)) else some (0, 2)) e1 ?_
    exact ev_if (fun h => ev_now (by simp only at h; rw [if_pos h])) fun h => ev_now (by simp only at h; rw [if_neg h])
  | false => simp only [Bool.false_eq_true, if_false]; exact ev_if (fun h => by simp at h) fun _ => Ev.now _
theorem pValid_ev (x : S36) (hx : OkNode x) (hc : cnt x ≤ 100000) (pos : List Int) : Ev (fun k => position_Valid.f k x.f0 x.f1 x.f2 x.f3 pos) ((idxB x pos).2 == 0) := by
  unfold position_Valid.f
  exact ev_bind (pIndex_ev x hx hc pos) (Ev.now _)
theorem okI_small (n : Int) (h : 0 ≤ n ∧ n < 100) : OkI .i64 n := by
  have := wrap64_wf n
  rwa [wr (by omega)] at this
theorem ok_leaf (k : Int) (s : ByteArray) (hk : 0 ≤ k ∧ k < 100) (hs : s.size ≤ 100) : OkNode ⟨k, s, 0, []⟩ := OkNode.mk _ (okI_small k hk) (by unfold OkS; simp; omega) (okI_small 0 (by omega)) (by simp) (fun y h => by simp at h)
end Go.Proofs.YtagkhoeidjlahaaDoor.G.Pure
namespace Go.Proofs.YtagkhoeidjlahaaDoor.G
open Go.RowKit Go.Proofs.YtagkhoeidjlahaaDoorW.PrintWords Go.Proofs.YtagkhoeidjlahaaDoorW.PrintLast Go.Proofs.YtagkhoeidjlahaaDoorW.PrintMore
attribute [local go_sem] max2_int min2_int max_two min_two max_three min_three max_four min_four
set_option linter.unusedVariables false
set_option linter.unusedSimpArgs false
def slices_Equal_int_int.l0 : Nat → List Int → List Int → Int → Int → Option (Bool)
  | 0, _, _, _, _ => none
  | k + 1, x0, x1, x12, x13 => if x13 < x12 then (if 0 ≤ x13 then (if x13 < (x0.length : Int) then (if x13 < (x1.length : Int) then (if (rd x0 x13) = (rd x1 x13) then (slices_Equal_int_int.l0 k x0 x1 x12 (wrap64 (x13 + 1))) else (some false)) else (none)) else (none)) else (none)) else (some true)
def slices_Equal_int_int.f (k : Nat) (l0 : List Int) (l1 : List Int) : Option (Bool) := if (l0.length : Int) = (l1.length : Int) then (slices_Equal_int_int.l0 k l0 l1 (l0.length : Int) 0) else (some false)
set_option maxHeartbeats 8000000 in
set_option maxRecDepth 100000 in
theorem slices_Equal_int_int.calls (k : Nat) (A0 : Option Addr) (c0 : Nat) (l0 : List Int) (A1 : Option Addr) (c1 : Nat) (l1 : List Int) (r : Bool) (w : World) (hr0 : Kd.C (Kd.int .i64) w A0 l0.length l0) (hc0 : l0.length ≤ c0) (hr1 : Kd.C (Kd.int .i64) w A1 l1.length l1) (hc1 : l1.length ≤ c1) (h : slices_Equal_int_int.f k l0 l1 = some r) :
    Calls Tryd.prog 78 #[.slice A0 l0.length c0, .slice A1 l1.length c1] w fun e w' => e = .returned (.bool r) ∧ Drawn0 w w' := by
  have HR0 := Aside0.mk hr0
  have HC0 := Aside0.mk hc0
  clear hr0 hc0
  have HR1 := Aside0.mk hr1
  have HC1 := Aside0.mk hc1
  clear hr1 hc1
  have H : (if (l0.length : Int) = (l1.length : Int) then (slices_Equal_int_int.l0 k l0 l1 (l0.length : Int) 0) else (some false)) = some r := h
  clear h
  by_cases c3 : (l0.length : Int) = (l1.length : Int)
  · rw [if_pos c3] at H
    have c3b0 : ((l0.length : Int) == (l1.length : Int)) = true := beq_iff_eq.mpr c3
    have c3b1 : ((l0.length : Int) != (l1.length : Int)) = false := bne_eq_false_iff_eq.mpr c3
    have c3b2 : (l0.length == l1.length) = true := by first | simpa using c3 | (simp at c3 ⊢; omega)
    clear c3
    have H' := Aside0.mk H
    clear H
    go_enter Tryd.func78, Tryd.ntmps78
    go_wp2
    repeat (go_quiet (fail); try go_wp2)
    go_loopg [13] k (fun kq v13 w' => ∃ (x13_1 : Int), v13 = .int .i64 x13_1 ∧ Aside0 (slices_Equal_int_int.l0 kq l0 l1 (l0.length : Int) x13_1 = some r) ∧ Aside0 (kq ≤ k) ∧ Drawn0 w w')
    case atStart => exact ⟨(0), (by first | rfl | (simp; done) | (simp [*]; done)), H', ⟨Nat.le_refl _⟩, by repeat (first | exact Drawn0.refl _ | apply Drawn0.step)⟩
    case round =>
      clear H'
      try clear c1
      try clear p2
      try clear c3
      try clear c3b0
      try clear c3b1
      try clear c3b2
      obtain ⟨x13_1, rfl, HA, HK1, ⟨m1, rfl⟩⟩ := hrel
      cases gk with
      | zero => exact absurd HA.out (by simp [slices_Equal_int_int.l0])
      | succ k1 =>
        have H := HA.out
        clear HA
        simp only [slices_Equal_int_int.l0] at H
        by_cases c4 : x13_1 < (l0.length : Int)
        · rw [if_pos c4] at H
          have c4b0 : decide (x13_1 < (l0.length : Int)) = true := decide_eq_true c4
          clear c4
          by_cases c5 : 0 ≤ x13_1
          · rw [if_pos c5] at H
            have c5b0 : decide (0 ≤ x13_1) = true := decide_eq_true c5
            clear c5
            by_cases c6 : x13_1 < (l0.length : Int)
            · rw [if_pos c6] at H
              have c6b0 : decide (x13_1 < (l0.length : Int)) = true := decide_eq_true c6
              clear c6
              by_cases c7 : x13_1 < (l1.length : Int)
              · rw [if_pos c7] at H
                have c7b0 : decide (x13_1 < (l1.length : Int)) = true := decide_eq_true c7
                clear c7
                by_cases c8 : (rd l0 x13_1) = (rd l1 x13_1)
                · rw [if_pos c8] at H
                  have c8b0 : ((rd l0 x13_1) == (rd l1 x13_1)) = true := beq_iff_eq.mpr c8
                  have c8b1 : ((rd l0 x13_1) != (rd l1 x13_1)) = false := bne_eq_false_iff_eq.mpr c8
                  clear c8
                  have H' := Aside0.mk H
                  clear H
                  have p647 : 0 ≤ (x13_1 : Int) := of_decide_eq_true (by first | (with_reducible assumption) | assumption)
                  have q647 : x13_1 < (l0.length : Int) := of_decide_eq_true (by first | (with_reducible assumption) | assumption)
                  obtain ⟨ad647, e647, hx647_0⟩ := Kd.at_int HR0.out x13_1 p647 q647
                  cases e647
                  replace p647 := eq_true p647
                  replace q647 := eq_true q647
                  have p648 : 0 ≤ (x13_1 : Int) := of_decide_eq_true (by first | (with_reducible assumption) | assumption)
                  have q648 : x13_1 < (l1.length : Int) := of_decide_eq_true (by first | (with_reducible assumption) | assumption)
                  obtain ⟨ad648, e648, hx648_0⟩ := Kd.at_int HR1.out x13_1 p648 q648
                  cases e648
                  replace p648 := eq_true p648
                  replace q648 := eq_true q648
                  go_wp2
                  repeat (go_quiet (fail); try go_wp2)
                  go_roundg k1
                  case measure => have := HK1.out; omega
                  case rel => exact ⟨(wrap64 (x13_1 + 1)), (by first | rfl | (simp; done) | (simp [*]; done)), H', ⟨by have := HK1.out; omega⟩, by repeat (first | exact Drawn0.refl _ | apply Drawn0.step)⟩
                · rw [if_neg c8] at H
                  have c8b0 : ((rd l0 x13_1) == (rd l1 x13_1)) = false := beq_eq_false_iff_ne.mpr c8
                  have c8b1 : ((rd l0 x13_1) != (rd l1 x13_1)) = true := bne_iff_ne.mpr c8
                  obtain rfl := Option.some.inj H
                  have p647 : 0 ≤ (x13_1 : Int) := of_decide_eq_true (by first | (with_reducible assumption) | assumption)
                  have q647 : x13_1 < (l0.length : Int) := of_decide_eq_true (by first | (with_reducible assumption) | assumption)
                  obtain ⟨ad647, e647, hx647_0⟩ := Kd.at_int HR0.out x13_1 p647 q647
                  cases e647
                  replace p647 := eq_true p647
                  replace q647 := eq_true q647
                  have p648 : 0 ≤ (x13_1 : Int) := of_decide_eq_true (by first | (with_reducible assumption) | assumption)
                  have q648 : x13_1 < (l1.length : Int) := of_decide_eq_true (by first | (with_reducible assumption) | assumption)
                  obtain ⟨ad648, e648, hx648_0⟩ := Kd.at_int HR1.out x13_1 p648 q648
                  cases e648
                  replace p648 := eq_true p648
                  replace q648 := eq_true q648
                  go_wp2
                  repeat (go_quiet (fail); try go_wp2)
                  go_ret
                  exact ⟨by first | rfl | (simp; done) | (simp [*]; done), by repeat (first | exact Drawn0.refl _ | apply Drawn0.step)⟩
              · rw [if_neg c7] at H
                exact absurd H (by simp)
            · rw [if_neg c6] at H
              exact absurd H (by simp)
          · rw [if_neg c5] at H
            exact absurd H (by simp)
        · rw [if_neg c4] at H
          have c4b0 : decide (x13_1 < (l0.length : Int)) = false := decide_eq_false c4
          clear c4
          obtain rfl := Option.some.inj H
          go_wp2
          repeat (go_quiet (fail); try go_wp2)
          go_ret
          exact ⟨by first | rfl | (simp; done) | (simp [*]; done), by repeat (first | exact Drawn0.refl _ | apply Drawn0.step)⟩
  · rw [if_neg c3] at H
    have c3b0 : ((l0.length : Int) == (l1.length : Int)) = false := beq_eq_false_iff_ne.mpr c3
    have c3b1 : ((l0.length : Int) != (l1.length : Int)) = true := bne_iff_ne.mpr c3
    have c3b2 : (l0.length == l1.length) = false := by first | simpa using c3 | (simp at c3 ⊢; omega)
    obtain rfl := Option.some.inj H
    go_enter Tryd.func78, Tryd.ntmps78
    go_wp2
    repeat (go_quiet (fail); try go_wp2)
    go_ret
    exact ⟨by first | rfl | (simp; done) | (simp [*]; done), by repeat (first | exact Drawn0.refl _ | apply Drawn0.step)⟩
end Go.Proofs.YtagkhoeidjlahaaDoor.G
namespace Go.Proofs.YtagkhoeidjlahaaDoor.G
open Go.RowKit Go.Proofs.YtagkhoeidjlahaaDoorW.PrintWords Go.Proofs.YtagkhoeidjlahaaDoorW.PrintLast Go.Proofs.YtagkhoeidjlahaaDoorW.PrintMore
attribute [local go_sem] max2_int min2_int max_two min_two max_three min_three max_four min_four
set_option linter.unusedVariables false
set_option linter.unusedSimpArgs false
def selection_join.f (a0_0 : Int) (a0_1 : Int) (a1_0 : Int) (a1_1 : Int) : Option (Int × Int) := some (mn a0_0 a1_0, mx a0_1 a1_1)
set_option maxHeartbeats 8000000 in
set_option maxRecDepth 100000 in
theorem selection_join.calls (a0_0 : Int) (a0_1 : Int) (a1_0 : Int) (a1_1 : Int) (r1 : Int) (r2 : Int) (w : World) (h : selection_join.f a0_0 a0_1 a1_0 a1_1 = some (r1, r2)) :
    Calls Tryd.prog 79 #[.agg #[.int .i64 a0_0, .int .i64 a0_1], .agg #[.int .i64 a1_0, .int .i64 a1_1]] w fun e w' => e = .returned (.agg #[.int .i64 r1, .int .i64 r2]) ∧ Below w.heap.size w w' := by
  have hu85 := Tryd.underlying85
  have HB := Aside0.mk (Below.refl w.heap.size w)
  have H : (some (mn a0_0 a1_0, mx a0_1 a1_1)) = some (r1, r2) := h
  clear h
  obtain ⟨ji3, hji3⟩ : ∃ j_ : Int, (mn a0_0 a1_0) = j_ := ⟨_, rfl⟩
  replace H : (some (ji3, mx a0_1 a1_1)) = some (r1, r2) := by first | (rw [hji3] at H; exact H) | (simp only [hji3] at H ⊢; exact H)
  have hji3_ : (if a1_0 < a0_0 then a1_0 else a0_0) = ji3 := hji3
  obtain ⟨ji4, hji4⟩ : ∃ j_ : Int, (mx a0_1 a1_1) = j_ := ⟨_, rfl⟩
  replace H : (some (ji3, ji4)) = some (r1, r2) := by first | (rw [hji4] at H; exact H) | (simp only [hji4] at H ⊢; exact H)
  have hji4_ : (if a0_1 < a1_1 then a1_1 else a0_1) = ji4 := hji4
  simp only [Option.some.injEq, Prod.mk.injEq] at H
  obtain ⟨rfl, rfl⟩ := H
  go_enter Tryd.func79, Tryd.ntmps79
  go_wp2_with (first | ((with_reducible refine gate_dst (N := 2) rfl ?_); refine box_event ?hg (N := 2) ?hd (cs := #[.int .i64 a0_0, .int .i64 a0_1]) (t := 85) ?hr ?_; (case hd => rfl); (case hg => rfl); (case hr => first | (go_simp; done) | (go_simp; rfl)); intro gb649 hg w5 hbox hb; have n0_ := Aside0.mk (below_step (by repeat (first | (with_reducible first | exact HB.out | apply below_alloc | apply pw_below_drewN | apply below_drew1) | exact HB.out)) hb); have n1_ := Aside0.mk (hbox); have n2_ := Aside0.mk ((by rw [hg]; exact (below_size (by repeat (first | (with_reducible first | exact HB.out | apply below_alloc | apply pw_below_drewN | apply below_drew1) | exact HB.out))) : w.heap.size ≤ gb649)); have n3_ := Aside0.mk ((by rw [hg]; exact (below_size (by repeat (first | (with_reducible first | exact HB.out | apply below_alloc | apply pw_below_drewN | apply below_drew1) | exact HB.out))) : w.heap.size ≤ gb649)); clear HB; have HB := n0_; have BK649 := n1_; have GW649 := n2_; have GE649 := n3_; clear n0_ n1_ n2_ n3_; clear hb hbox hg) | ((with_reducible refine gate_dst (N := 3) rfl ?_); refine box_event ?hg (N := 3) ?hd (cs := #[.int .i64 a1_0, .int .i64 a1_1]) (t := 85) ?hr ?_; (case hd => rfl); (case hg => rfl); (case hr => first | (go_simp; done) | (go_simp; rfl)); intro gb650 hg w6 hbox hb; have n0_ := Aside0.mk (blk_below (g := gb649) (o := .cells #[.int .i64 a0_0, .int .i64 a0_1] 85 (0, 0)) (by (with_reducible repeat (first | refine blk_drewN ?_ _ | refine blk_drew ?_ | refine blk_alloc ?_ _)); exact BK649.out) hb); have n1_ := Aside0.mk (below_step (by repeat (first | (with_reducible first | exact HB.out | apply below_alloc | apply pw_below_drewN | apply below_drew1 | refine below_set ?_ GE649.out) | exact HB.out)) hb); have n2_ := Aside0.mk (hbox); have n3_ := Aside0.mk ((by rw [hg]; exact (below_size (by repeat (first | (with_reducible first | exact HB.out | apply below_alloc | apply pw_below_drewN | apply below_drew1 | refine below_set ?_ GE649.out) | exact HB.out))) : w.heap.size ≤ gb650)); have n4_ := Aside0.mk ((by rw [hg]; exact (below_size (by repeat (first | (with_reducible first | exact HB.out | apply below_alloc | apply pw_below_drewN | apply below_drew1 | refine below_set ?_ GE649.out) | exact HB.out))) : w.heap.size ≤ gb650)); have n5_ := Aside0.mk ((by rw [hg]; exact Nat.ne_of_lt (blk_lt (g := gb649) (o := .cells #[.int .i64 a0_0, .int .i64 a0_1] 85 (0, 0)) (by (with_reducible repeat (first | refine blk_drewN ?_ _ | refine blk_drew ?_ | refine blk_alloc ?_ _)); exact BK649.out)) : gb649 ≠ gb650)); have n6_ := Aside0.mk ((by rw [hg]; exact Nat.ne_of_gt (blk_lt (g := gb649) (o := .cells #[.int .i64 a0_0, .int .i64 a0_1] 85 (0, 0)) (by (with_reducible repeat (first | refine blk_drewN ?_ _ | refine blk_drew ?_ | refine blk_alloc ?_ _)); exact BK649.out)) : gb650 ≠ gb649)); clear BK649; clear HB; have BK649 := n0_; have HB := n1_; have BK650 := n2_; have GW650 := n3_; have GE650 := n4_; have NB649_650 := n5_; have NB650_649 := n6_; clear n0_ n1_ n2_ n3_ n4_ n5_ n6_; clear hb hbox hg) | ((with_reducible refine gate_dst (N := 4) rfl ?_); refine box_event ?hg (N := 4) ?hd (cs := #[.int .i64 0, .int .i64 0]) (t := 85) ?hr ?_; (case hd => rfl); (case hg => rfl); (case hr => first | (go_simp; done) | (go_simp; rfl)); intro gb651 hg w7 hbox hb; have n0_ := Aside0.mk (blk_below (g := gb649) (o := .cells #[.int .i64 a0_0, .int .i64 a0_1] 85 (0, 0)) (by (with_reducible repeat (first | refine blk_drewN ?_ _ | refine blk_drew ?_ | refine blk_alloc ?_ _)); exact BK649.out) hb); have n1_ := Aside0.mk (blk_below (g := gb650) (o := .cells #[.int .i64 a1_0, .int .i64 a1_1] 85 (0, 0)) (by (with_reducible repeat (first | refine blk_drewN ?_ _ | refine blk_drew ?_ | refine blk_alloc ?_ _)); exact BK650.out) hb); have n2_ := Aside0.mk (below_step (by repeat (first | (with_reducible first | exact HB.out | apply below_alloc | apply pw_below_drewN | apply below_drew1 | refine below_set ?_ GE649.out | refine below_set ?_ GE650.out) | exact HB.out)) hb); have n3_ := Aside0.mk (hbox); have n4_ := Aside0.mk ((by rw [hg]; exact (below_size (by repeat (first | (with_reducible first | exact HB.out | apply below_alloc | apply pw_below_drewN | apply below_drew1 | refine below_set ?_ GE649.out | refine below_set ?_ GE650.out) | exact HB.out))) : w.heap.size ≤ gb651)); have n5_ := Aside0.mk ((by rw [hg]; exact (below_size (by repeat (first | (with_reducible first | exact HB.out | apply below_alloc | apply pw_below_drewN | apply below_drew1 | refine below_set ?_ GE649.out | refine below_set ?_ GE650.out) | exact HB.out))) : w.heap.size ≤ gb651)); have n6_ := Aside0.mk ((by rw [hg]; exact Nat.ne_of_lt (blk_lt (g := gb649) (o := .cells #[.int .i64 a0_0, .int .i64 a0_1] 85 (0, 0)) (by (with_reducible repeat (first | refine blk_drewN ?_ _ | refine blk_drew ?_ | refine blk_alloc ?_ _)); exact BK649.out)) : gb649 ≠ gb651)); have n7_ := Aside0.mk ((by rw [hg]; exact Nat.ne_of_gt (blk_lt (g := gb649) (o := .cells #[.int .i64 a0_0, .int .i64 a0_1] 85 (0, 0)) (by (with_reducible repeat (first | refine blk_drewN ?_ _ | refine blk_drew ?_ | refine blk_alloc ?_ _)); exact BK649.out)) : gb651 ≠ gb649)); have n8_ := Aside0.mk ((by rw [hg]; exact Nat.ne_of_lt (blk_lt (g := gb650) (o := .cells #[.int .i64 a1_0, .int .i64 a1_1] 85 (0, 0)) (by (with_reducible repeat (first | refine blk_drewN ?_ _ | refine blk_drew ?_ | refine blk_alloc ?_ _)); exact BK650.out)) : gb650 ≠ gb651)); have n9_ := Aside0.mk ((by rw [hg]; exact Nat.ne_of_gt (blk_lt (g := gb650) (o := .cells #[.int .i64 a1_0, .int .i64 a1_1] 85 (0, 0)) (by (with_reducible repeat (first | refine blk_drewN ?_ _ | refine blk_drew ?_ | refine blk_alloc ?_ _)); exact BK650.out)) : gb651 ≠ gb650)); clear BK649; clear BK650; clear HB; have BK649 := n0_; have BK650 := n1_; have HB := n2_; have BK651 := n3_; have GW651 := n4_; have GE651 := n5_; have NB649_651 := n6_; have NB651_649 := n7_; have NB650_651 := n8_; have NB651_650 := n9_; clear n0_ n1_ n2_ n3_ n4_ n5_ n6_ n7_ n8_ n9_; clear hb hbox hg; have hnb8 := NB649_650.out; have hnc8 := NB650_649.out; have hnb9 := NB649_651.out; have hnc9 := NB651_649.out; have hcz10_0 : w7.cell? ⟨gb649, 0, none⟩ = some (.int .i64 a0_0) := (blk_cell BK649.out 0).trans rfl; have hcz10_1 : w7.cell? ⟨gb649, 1, none⟩ = some (.int .i64 a0_1) := (blk_cell BK649.out 1).trans rfl; have hfz10_0 := blk_frozen BK649.out 0; have hfz10_1 := blk_frozen BK649.out 1; have hnb11 := NB650_651.out; have hnc11 := NB651_650.out; have hcz12_0 : w7.cell? ⟨gb650, 0, none⟩ = some (.int .i64 a1_0) := (blk_cell BK650.out 0).trans rfl; have hcz12_1 : w7.cell? ⟨gb650, 1, none⟩ = some (.int .i64 a1_1) := (blk_cell BK650.out 1).trans rfl; have hfz12_0 := blk_frozen BK650.out 0; have hfz12_1 := blk_frozen BK650.out 1; have hcz13_0 : w7.cell? ⟨gb651, 0, none⟩ = some (.int .i64 0) := (blk_cell BK651.out 0).trans rfl; have hcz13_1 : w7.cell? ⟨gb651, 1, none⟩ = some (.int .i64 0) := (blk_cell BK651.out 1).trans rfl; have hfz13_0 := blk_frozen BK651.out 0; have hfz13_1 := blk_frozen BK651.out 1))
  refine bodyPost_ret (results_cell_row rfl _ _ gb651 85 #[.int .i64 ji3, .int .i64 ji4] (0, 0) _ rfl (by (with_reducible repeat (first | refine blk_drewN ?_ _ | refine blk_drew ?_ | refine blk_alloc ?_ _)); refine blk_put (cs := #[.int .i64 ji3, .int .i64 0]) ?_ 1 _ rfl; (with_reducible repeat (first | refine blk_drewN ?_ _ | refine blk_drew ?_ | refine blk_alloc ?_ _)); refine blk_put (cs := #[.int .i64 0, .int .i64 0]) ?_ 0 _ rfl; (with_reducible repeat (first | refine blk_drewN ?_ _ | refine blk_drew ?_ | refine blk_alloc ?_ _)); exact BK651.out) Tryd.underlying85 rfl (by kernel_rfl)) rfl ?_
  exact ⟨by first | rfl | (simp [errW_none, errW_some] <;> rfl) | (simp only [← hji3, ← hji4]; first | rfl | (simp [errW_none, errW_some] <;> rfl)) | (simp [*, errW_none, errW_some] <;> rfl), by repeat (first | (with_reducible first | exact HB.out | apply below_alloc | apply pw_below_drewN | apply below_drew1 | refine below_set ?_ GE649.out | refine below_set ?_ GE650.out | refine below_set ?_ GE651.out) | exact HB.out)⟩
end Go.Proofs.YtagkhoeidjlahaaDoor.G
namespace Go.Proofs.YtagkhoeidjlahaaDoor.G
open Go.RowKit Go.Proofs.YtagkhoeidjlahaaDoorW.PrintWords Go.Proofs.YtagkhoeidjlahaaDoorW.PrintLast Go.Proofs.YtagkhoeidjlahaaDoorW.PrintMore
attribute [local go_sem] max2_int min2_int max_two min_two max_three min_three max_four min_four
set_option linter.unusedVariables false
set_option linter.unusedSimpArgs false
def selection_cover.f (l0 : List Int) : Option (Int × Int) := if (l0.length : Int) = 1 then (if 0 < (l0.length : Int) then (some (rd l0 0, rd l0 0)) else (none)) else (if 0 < (l0.length : Int) then (some (rd l0 0, wrap64 ((rd l0 0) + 1))) else (none))
def selection_cover.T2 : Bool × List (List Nat × List Nat) := (true, [([], []), ([0], [0]), ([1], [1]), ([], []), ([3], [3]), ([4], [4]), ([2, 5], [2, 5]), ([6, 0, 1, 2, 3, 4, 5, 6], [6])])
def selection_cover.B2 : List Nat := [0, 1, 3, 0, 8, 24, 63, 127]
theorem selection_cover.tab2 : rtab .any (opsOf Tryd.f80 2) = selection_cover.T2 := by kernel_rfl
theorem selection_cover.bits2 : waitsOk selection_cover.T2.2 selection_cover.B2 = true := by kernel_rfl
def selection_cover.T3 : Bool × List (List Nat × List Nat) := (true, [([], []), ([0], [0]), ([1], [1]), ([], []), ([3], [3]), ([4], [4]), ([5], [5]), ([2, 6], [2, 6]), ([7, 0, 1, 2, 3, 4, 5, 6, 7], [7])])
def selection_cover.B3 : List Nat := [0, 1, 3, 0, 8, 24, 56, 127, 255]
theorem selection_cover.tab3 : rtab .any (opsOf Tryd.f80 3) = selection_cover.T3 := by kernel_rfl
theorem selection_cover.bits3 : waitsOk selection_cover.T3.2 selection_cover.B3 = true := by kernel_rfl
set_option maxHeartbeats 8000000 in
set_option maxRecDepth 100000 in
theorem selection_cover.calls (A0 : Option Addr) (c0 : Nat) (l0 : List Int) (r1 : Int) (r2 : Int) (w : World) (hr0 : Kd.C (Kd.int .i64) w A0 l0.length l0) (hc0 : l0.length ≤ c0) (h : selection_cover.f l0 = some (r1, r2)) :
    Calls Tryd.prog 80 #[.slice A0 l0.length c0] w fun e w' => e = .returned (.agg #[.int .i64 r1, .int .i64 r2]) ∧ Below w.heap.size w w' := by
  have hu85 := Tryd.underlying85
  have HR0 := Aside0.mk hr0
  have HC0 := Aside0.mk hc0
  clear hr0 hc0
  have HB := Aside0.mk (Below.refl w.heap.size w)
  have H : (if (l0.length : Int) = 1 then (if 0 < (l0.length : Int) then (some (rd l0 0, rd l0 0)) else (none)) else (if 0 < (l0.length : Int) then (some (rd l0 0, wrap64 ((rd l0 0) + 1))) else (none))) = some (r1, r2) := h
  clear h
  by_cases c2 : (l0.length : Int) = 1
  · rw [if_pos c2] at H
    have c2b0 : ((l0.length : Int) == 1) = true := beq_iff_eq.mpr c2
    have c2b1 : ((l0.length : Int) != 1) = false := bne_eq_false_iff_eq.mpr c2
    clear c2
    by_cases c3 : 0 < (l0.length : Int)
    · rw [if_pos c3] at H
      have c3b0 : decide (0 < (l0.length : Int)) = true := decide_eq_true c3
      have c3b1 : decide (0 < l0.length) = true := decide_eq_true (by omega)
      clear c3
      simp only [Option.some.injEq, Prod.mk.injEq] at H
      obtain ⟨rfl, rfl⟩ := H
      go_enter Tryd.func80, Tryd.ntmps80
      try go_wp2_with (first | ((with_reducible refine gate_dst (N := 2) rfl ?_); refine box_event ?hg (N := 2) ?hd (cs := #[.int .i64 0, .int .i64 0]) (t := 85) ?hr ?_; (case hd => rfl); (case hg => rfl); (case hr => first | (go_simp; done) | (go_simp; rfl)); intro gb652 hg w4 hbox hb; have n0_ := Aside0.mk (below_step (by repeat (first | (with_reducible first | exact HB.out | apply below_alloc | apply pw_below_drewN | apply below_drew1) | exact HB.out)) hb); have n1_ := Aside0.mk (hbox); have n2_ := Aside0.mk ((by rw [hg]; exact (below_size (by repeat (first | (with_reducible first | exact HB.out | apply below_alloc | apply pw_below_drewN | apply below_drew1) | exact HB.out))) : w.heap.size ≤ gb652)); have n3_ := Aside0.mk ((by rw [hg]; exact (below_size (by repeat (first | (with_reducible first | exact HB.out | apply below_alloc | apply pw_below_drewN | apply below_drew1) | exact HB.out))) : w.heap.size ≤ gb652)); clear HB; have HB := n0_; have BK652 := n1_; have GW652 := n2_; have GE652 := n3_; clear n0_ n1_ n2_ n3_; clear hb hbox hg))
      have n0_ := Aside0.mk (blk_drew BK652.out)
      have n1_ := Aside0.mk (below_drew1 HB.out)
      clear BK652
      clear HB
      have BK652 := n0_
      have HB := n1_
      clear n0_ n1_
      have p653 : 0 ≤ (0 : Int) := (by omega)
      have q653 : 0 < (l0.length : Int) := of_decide_eq_true (by first | (with_reducible assumption) | assumption)
      obtain ⟨ad653, e653, hx653_0⟩ := Kd.at_int HR0.out 0 p653 q653
      have hw653_0 := hx653_0
      (try rw [show ((0 : Int)).toNat = 0 from rfl] at hw653_0)
      (try rw [show 0 * 1 = 0 from rfl] at hw653_0)
      (try rw [Addr.add_zero'] at hw653_0)
      cases e653
      have qi653 : (0 < l0.length) = True := eq_true (by omega)
      (try rw [show ((0 : Int)).toNat = 0 from rfl] at hx653_0)
      (try rw [Addr.add_zero'] at hx653_0)
      replace hx653_0 := (HB.out.cell (World.block_lt_of_cell? w _ hx653_0)).trans hx653_0
      replace p653 := eq_true p653
      replace q653 := eq_true q653
      have p654 : 0 ≤ (0 : Int) := (by omega)
      have q654 : 0 < (l0.length : Int) := of_decide_eq_true (by first | (with_reducible assumption) | assumption)
      obtain ⟨ad654, e654, hx654_0⟩ := Kd.at_int HR0.out 0 p654 q654
      have hw654_0 := hx654_0
      (try rw [show ((0 : Int)).toNat = 0 from rfl] at hw654_0)
      (try rw [show 0 * 1 = 0 from rfl] at hw654_0)
      (try rw [Addr.add_zero'] at hw654_0)
      obtain rfl : ad653 = ad654 := (by injection e654)
      have qi654 : (0 < l0.length) = True := eq_true (by omega)
      (try rw [show ((0 : Int)).toNat = 0 from rfl] at hx654_0)
      (try rw [Addr.add_zero'] at hx654_0)
      replace hx654_0 := (HB.out.cell (World.block_lt_of_cell? w _ hx654_0)).trans hx654_0
      replace p654 := eq_true p654
      replace q654 := eq_true q654
      refine start_ (n := 8) (S := fun w' => w'.cell? ad653 = some (.int .i64 (rd l0 0)) ∧ w'.cell? ad653 = some (.int .i64 (rd l0 0))) (ds := []) #[false, false, false, false, false, false, false, false] (by kernel_rfl) rfl rfl ⟨((HB.out.cell (World.block_lt_of_cell? w _ hw653_0)).trans hw653_0), ((HB.out.cell (World.block_lt_of_cell? w _ hw654_0)).trans hw654_0)⟩ (fun hHeld => ?_); refine with_tabW selection_cover.tab2 selection_cover.bits2 (fun HT_ HW_ => ?_)
      generalize w4.drew = w5 at BK652 HB hx653_0 hx654_0 hHeld ⊢
      refine pure_ (i := 0) (N := some 6) (v := ?_) (a' := ?_) #[true, false, false, false, false, false, false, false] rfl rfl (any_of HT_.out (by kernel_rfl)) (fun _ _ _ h => h) (Or.inl ⟨by rfl, ?_⟩) ?_ ?_
      rotate_left
      · intro w'
        go_simp
        first | with_reducible rfl | (rw [own_len_N ?hl_ ?hu_]; (case hl_ => assumption); (case hu_ => kernel_rfl); (try with_reducible rfl)) | (rw [own_len_R ?hl_ ?hu_]; (case hl_ => assumption); (case hu_ => kernel_rfl); (try with_reducible rfl))
      rotate_left
      · simp only [Act.put, List.setIfInBounds_toArray, List.set_cons_zero, List.set_cons_succ, i64_w, i32_w]
        rfl
      refine pure_ (i := 1) (N := some 7) (v := ?_) (a' := ?_) #[true, true, false, false, false, false, false, false] rfl rfl (any_of HT_.out (by kernel_rfl)) (fun _ _ _ h => h) (Or.inl ⟨by rfl, ?_⟩) ?_ ?_
      rotate_left
      · intro w'
        go_simp
        first | with_reducible rfl | (rw [own_len_N ?hl_ ?hu_]; (case hl_ => assumption); (case hu_ => kernel_rfl); (try with_reducible rfl)) | (rw [own_len_R ?hl_ ?hu_]; (case hl_ => assumption); (case hu_ => kernel_rfl); (try with_reducible rfl))
      rotate_left
      · simp only [Act.put, List.setIfInBounds_toArray, List.set_cons_zero, List.set_cons_succ, i64_w, i32_w]
        rfl
      refine pure_ (i := 3) (N := some 9) (v := ?_) (a' := ?_) #[true, true, false, true, false, false, false, false] rfl rfl (any_of HT_.out (by kernel_rfl)) (fun _ _ _ h => h) (Or.inl ⟨by rfl, ?_⟩) ?_ ?_
      rotate_left
      · intro w'
        go_simp
        first | with_reducible rfl | (rw [own_len_N ?hl_ ?hu_]; (case hl_ => assumption); (case hu_ => kernel_rfl); (try with_reducible rfl)) | (rw [own_len_R ?hl_ ?hu_]; (case hl_ => assumption); (case hu_ => kernel_rfl); (try with_reducible rfl))
      rotate_left
      · simp only [Act.put, List.setIfInBounds_toArray, List.set_cons_zero, List.set_cons_succ, i64_w, i32_w]
        rfl
      refine pure_ (i := 4) (N := some 10) (v := ?_) (a' := ?_) #[true, true, false, true, true, false, false, false] rfl rfl (any_of HT_.out (by kernel_rfl)) (fun _ _ _ h => h) (Or.inl ⟨by rfl, ?_⟩) ?_ ?_
      rotate_left
      · intro w'
        go_simp
        first | with_reducible rfl | (rw [own_len_N ?hl_ ?hu_]; (case hl_ => assumption); (case hu_ => kernel_rfl); (try with_reducible rfl)) | (rw [own_len_R ?hl_ ?hu_]; (case hl_ => assumption); (case hu_ => kernel_rfl); (try with_reducible rfl))
      rotate_left
      · simp only [Act.put, List.setIfInBounds_toArray, List.set_cons_zero, List.set_cons_succ, i64_w, i32_w]
        rfl
      refine take_ (i := 2) (N := some 8) (v := ?_) (a' := ?_) #[true, true, true, true, true, false, false, false] rfl rfl (take_ofW HT_.out HW_.out (by kernel_rfl)) (fun _ _ _ h => h) (Or.inl ⟨by rfl, ?_⟩) hHeld ?_ ?_
      rotate_left
      · rintro w' ⟨s0, s1⟩
        go_simp
        with_reducible rfl
      rotate_left
      · simp only [Act.put, List.setIfInBounds_toArray, List.set_cons_zero, List.set_cons_succ, i64_w, i32_w]
        rfl
      refine take_ (i := 5) (N := some 11) (v := ?_) (a' := ?_) #[true, true, true, true, true, true, false, false] rfl rfl (take_ofW HT_.out HW_.out (by kernel_rfl)) (fun _ _ _ h => h) (Or.inl ⟨by rfl, ?_⟩) hHeld ?_ ?_
      rotate_left
      · rintro w' ⟨s0, s1⟩
        go_simp
        with_reducible rfl
      rotate_left
      · simp only [Act.put, List.setIfInBounds_toArray, List.set_cons_zero, List.set_cons_succ, i64_w, i32_w]
        rfl
      refine pure_ (i := 6) (N := some 12) (v := ?_) (a' := ?_) #[true, true, true, true, true, true, true, false] rfl rfl (any_of HT_.out (by kernel_rfl)) (fun _ _ _ h => h) (Or.inl ⟨by rfl, ?_⟩) ?_ ?_
      rotate_left
      · intro w'
        go_simp
        first | with_reducible rfl | (rw [own_len_N ?hl_ ?hu_]; (case hl_ => assumption); (case hu_ => kernel_rfl); (try with_reducible rfl)) | (rw [own_len_R ?hl_ ?hu_]; (case hl_ => assumption); (case hu_ => kernel_rfl); (try with_reducible rfl))
      rotate_left
      · simp only [Act.put, List.setIfInBounds_toArray, List.set_cons_zero, List.set_cons_succ, i64_w, i32_w]
        rfl
      refine one_ (i := 7) (N := none) #[true, true, true, true, true, true, true, true] rfl rfl (one_of HT_.out (by kernel_rfl)) (by decide) (fun K hK => ?_)
      have hs6 : w5.cell? ⟨gb652, 0, none⟩ = some (.int .i64 0) := (blk_cell BK652.out 0).trans rfl
      have hfs6 := blk_frozen BK652.out 0
      have hs7 : w5.cell? ⟨gb652, 1, none⟩ = some (.int .i64 0) := (blk_cell BK652.out 1).trans rfl
      have hfs7 := blk_frozen BK652.out 1
      refine skip_ (w1 := ?_) (by rfl) rfl ?_ ?_
      rotate_left
      · go_simp
        rfl
      refine hK.out _ _ ⟨((cell_far (p := ⟨gb652, _, none⟩) (by first | exact Nat.ne_of_lt (Nat.lt_of_lt_of_le (by have := World.block_lt_of_cell? _ _ hw653_0; first | rwa [add_block] at this | exact this) GW652.out) | (rw [add_block]; exact Nat.ne_of_lt (Nat.lt_of_lt_of_le (by have := World.block_lt_of_cell? _ _ hw653_0; first | rwa [add_block] at this | exact this) GW652.out)) | (show (Addr.add _ _).block ≠ _; rw [add_block]; exact Nat.ne_of_lt (Nat.lt_of_lt_of_le (by have := World.block_lt_of_cell? _ _ hw653_0; first | rwa [add_block] at this | exact this) GW652.out)) | (dsimp only; exact Nat.ne_of_lt (Nat.lt_of_lt_of_le (by have := World.block_lt_of_cell? _ _ hw653_0; first | rwa [add_block] at this | exact this) GW652.out))) _).trans (((cell_far (p := ⟨gb652, _, none⟩) (by first | exact Nat.ne_of_lt (Nat.lt_of_lt_of_le (by have := World.block_lt_of_cell? _ _ hw653_0; first | rwa [add_block] at this | exact this) GW652.out) | (rw [add_block]; exact Nat.ne_of_lt (Nat.lt_of_lt_of_le (by have := World.block_lt_of_cell? _ _ hw653_0; first | rwa [add_block] at this | exact this) GW652.out)) | (show (Addr.add _ _).block ≠ _; rw [add_block]; exact Nat.ne_of_lt (Nat.lt_of_lt_of_le (by have := World.block_lt_of_cell? _ _ hw653_0; first | rwa [add_block] at this | exact this) GW652.out)) | (dsimp only; exact Nat.ne_of_lt (Nat.lt_of_lt_of_le (by have := World.block_lt_of_cell? _ _ hw653_0; first | rwa [add_block] at this | exact this) GW652.out))) _).trans (hHeld.1)))), ((cell_far (p := ⟨gb652, _, none⟩) (by first | exact Nat.ne_of_lt (Nat.lt_of_lt_of_le (by have := World.block_lt_of_cell? _ _ hw654_0; first | rwa [add_block] at this | exact this) GW652.out) | (rw [add_block]; exact Nat.ne_of_lt (Nat.lt_of_lt_of_le (by have := World.block_lt_of_cell? _ _ hw654_0; first | rwa [add_block] at this | exact this) GW652.out)) | (show (Addr.add _ _).block ≠ _; rw [add_block]; exact Nat.ne_of_lt (Nat.lt_of_lt_of_le (by have := World.block_lt_of_cell? _ _ hw654_0; first | rwa [add_block] at this | exact this) GW652.out)) | (dsimp only; exact Nat.ne_of_lt (Nat.lt_of_lt_of_le (by have := World.block_lt_of_cell? _ _ hw654_0; first | rwa [add_block] at this | exact this) GW652.out))) _).trans (((cell_far (p := ⟨gb652, _, none⟩) (by first | exact Nat.ne_of_lt (Nat.lt_of_lt_of_le (by have := World.block_lt_of_cell? _ _ hw654_0; first | rwa [add_block] at this | exact this) GW652.out) | (rw [add_block]; exact Nat.ne_of_lt (Nat.lt_of_lt_of_le (by have := World.block_lt_of_cell? _ _ hw654_0; first | rwa [add_block] at this | exact this) GW652.out)) | (show (Addr.add _ _).block ≠ _; rw [add_block]; exact Nat.ne_of_lt (Nat.lt_of_lt_of_le (by have := World.block_lt_of_cell? _ _ hw654_0; first | rwa [add_block] at this | exact this) GW652.out)) | (dsimp only; exact Nat.ne_of_lt (Nat.lt_of_lt_of_le (by have := World.block_lt_of_cell? _ _ hw654_0; first | rwa [add_block] at this | exact this) GW652.out))) _).trans (hHeld.2))))⟩ (fun hHeld => ?_)
      clear hK K
      refine done_ (done_of HT_.out (by kernel_rfl)) ?_
      try go_wp2
      refine bodyPost_ret (results_cell_row rfl _ _ gb652 85 #[.int .i64 (rd l0 0), .int .i64 (rd l0 0)] (0, 0) _ rfl (by (with_reducible repeat (first | refine blk_drewN ?_ _ | refine blk_drew ?_ | refine blk_alloc ?_ _)); refine blk_put (cs := #[.int .i64 (rd l0 0), .int .i64 0]) ?_ 1 _ rfl; (with_reducible repeat (first | refine blk_drewN ?_ _ | refine blk_drew ?_ | refine blk_alloc ?_ _)); refine blk_put (cs := #[.int .i64 0, .int .i64 0]) ?_ 0 _ rfl; (with_reducible repeat (first | refine blk_drewN ?_ _ | refine blk_drew ?_ | refine blk_alloc ?_ _)); exact BK652.out) Tryd.underlying85 rfl (by kernel_rfl)) rfl ?_
      exact ⟨by first | rfl | (simp [errW_none, errW_some] <;> rfl) | (simp [*, errW_none, errW_some] <;> rfl), by repeat (first | (with_reducible first | exact HB.out | apply below_alloc | apply pw_below_drewN | apply below_drew1 | refine below_set ?_ GE652.out) | exact HB.out)⟩
    · rw [if_neg c3] at H
      exact absurd H (by simp)
  · rw [if_neg c2] at H
    have c2b0 : ((l0.length : Int) == 1) = false := beq_eq_false_iff_ne.mpr c2
    have c2b1 : ((l0.length : Int) != 1) = true := bne_iff_ne.mpr c2
    by_cases c8 : 0 < (l0.length : Int)
    · rw [if_pos c8] at H
      have c8b0 : decide (0 < (l0.length : Int)) = true := decide_eq_true c8
      have c8b1 : decide (0 < l0.length) = true := decide_eq_true (by omega)
      clear c8
      simp only [Option.some.injEq, Prod.mk.injEq] at H
      obtain ⟨rfl, rfl⟩ := H
      go_enter Tryd.func80, Tryd.ntmps80
      try go_wp2_with (first | ((with_reducible refine gate_dst (N := 2) rfl ?_); refine box_event ?hg (N := 2) ?hd (cs := #[.int .i64 0, .int .i64 0]) (t := 85) ?hr ?_; (case hd => rfl); (case hg => rfl); (case hr => first | (go_simp; done) | (go_simp; rfl)); intro gb652 hg w9 hbox hb; have n0_ := Aside0.mk (below_step (by repeat (first | (with_reducible first | exact HB.out | apply below_alloc | apply pw_below_drewN | apply below_drew1) | exact HB.out)) hb); have n1_ := Aside0.mk (hbox); have n2_ := Aside0.mk ((by rw [hg]; exact (below_size (by repeat (first | (with_reducible first | exact HB.out | apply below_alloc | apply pw_below_drewN | apply below_drew1) | exact HB.out))) : w.heap.size ≤ gb652)); have n3_ := Aside0.mk ((by rw [hg]; exact (below_size (by repeat (first | (with_reducible first | exact HB.out | apply below_alloc | apply pw_below_drewN | apply below_drew1) | exact HB.out))) : w.heap.size ≤ gb652)); clear HB; have HB := n0_; have BK652 := n1_; have GW652 := n2_; have GE652 := n3_; clear n0_ n1_ n2_ n3_; clear hb hbox hg))
      have n0_ := Aside0.mk (blk_drew BK652.out)
      have n1_ := Aside0.mk (below_drew1 HB.out)
      clear BK652
      clear HB
      have BK652 := n0_
      have HB := n1_
      clear n0_ n1_
      have p655 : 0 ≤ (0 : Int) := (by omega)
      have q655 : 0 < (l0.length : Int) := of_decide_eq_true (by first | (with_reducible assumption) | assumption)
      obtain ⟨ad655, e655, hx655_0⟩ := Kd.at_int HR0.out 0 p655 q655
      have hw655_0 := hx655_0
      (try rw [show ((0 : Int)).toNat = 0 from rfl] at hw655_0)
      (try rw [show 0 * 1 = 0 from rfl] at hw655_0)
      (try rw [Addr.add_zero'] at hw655_0)
      cases e655
      have qi655 : (0 < l0.length) = True := eq_true (by omega)
      (try rw [show ((0 : Int)).toNat = 0 from rfl] at hx655_0)
      (try rw [Addr.add_zero'] at hx655_0)
      replace hx655_0 := (HB.out.cell (World.block_lt_of_cell? w _ hx655_0)).trans hx655_0
      replace p655 := eq_true p655
      replace q655 := eq_true q655
      have p656 : 0 ≤ (0 : Int) := (by omega)
      have q656 : 0 < (l0.length : Int) := of_decide_eq_true (by first | (with_reducible assumption) | assumption)
      obtain ⟨ad656, e656, hx656_0⟩ := Kd.at_int HR0.out 0 p656 q656
      have hw656_0 := hx656_0
      (try rw [show ((0 : Int)).toNat = 0 from rfl] at hw656_0)
      (try rw [show 0 * 1 = 0 from rfl] at hw656_0)
      (try rw [Addr.add_zero'] at hw656_0)
      obtain rfl : ad655 = ad656 := (by injection e656)
      have qi656 : (0 < l0.length) = True := eq_true (by omega)
      (try rw [show ((0 : Int)).toNat = 0 from rfl] at hx656_0)
      (try rw [Addr.add_zero'] at hx656_0)
      replace hx656_0 := (HB.out.cell (World.block_lt_of_cell? w _ hx656_0)).trans hx656_0
      replace p656 := eq_true p656
      replace q656 := eq_true q656
      refine start_ (n := 9) (S := fun w' => w'.cell? ad655 = some (.int .i64 (rd l0 0)) ∧ w'.cell? ad655 = some (.int .i64 (rd l0 0))) (ds := []) #[false, false, false, false, false, false, false, false, false] (by kernel_rfl) rfl rfl ⟨((HB.out.cell (World.block_lt_of_cell? w _ hw655_0)).trans hw655_0), ((HB.out.cell (World.block_lt_of_cell? w _ hw656_0)).trans hw656_0)⟩ (fun hHeld => ?_); refine with_tabW selection_cover.tab3 selection_cover.bits3 (fun HT_ HW_ => ?_)
      generalize w9.drew = w10 at BK652 HB hx655_0 hx656_0 hHeld ⊢
      refine pure_ (i := 0) (N := some 13) (v := ?_) (a' := ?_) #[true, false, false, false, false, false, false, false, false] rfl rfl (any_of HT_.out (by kernel_rfl)) (fun _ _ _ h => h) (Or.inl ⟨by rfl, ?_⟩) ?_ ?_
      rotate_left
      · intro w'
        go_simp
        first | with_reducible rfl | (rw [own_len_N ?hl_ ?hu_]; (case hl_ => assumption); (case hu_ => kernel_rfl); (try with_reducible rfl)) | (rw [own_len_R ?hl_ ?hu_]; (case hl_ => assumption); (case hu_ => kernel_rfl); (try with_reducible rfl))
      rotate_left
      · simp only [Act.put, List.setIfInBounds_toArray, List.set_cons_zero, List.set_cons_succ, i64_w, i32_w]
        rfl
      refine pure_ (i := 1) (N := some 14) (v := ?_) (a' := ?_) #[true, true, false, false, false, false, false, false, false] rfl rfl (any_of HT_.out (by kernel_rfl)) (fun _ _ _ h => h) (Or.inl ⟨by rfl, ?_⟩) ?_ ?_
      rotate_left
      · intro w'
        go_simp
        first | with_reducible rfl | (rw [own_len_N ?hl_ ?hu_]; (case hl_ => assumption); (case hu_ => kernel_rfl); (try with_reducible rfl)) | (rw [own_len_R ?hl_ ?hu_]; (case hl_ => assumption); (case hu_ => kernel_rfl); (try with_reducible rfl))
      rotate_left
      · simp only [Act.put, List.setIfInBounds_toArray, List.set_cons_zero, List.set_cons_succ, i64_w, i32_w]
        rfl
      refine pure_ (i := 3) (N := some 16) (v := ?_) (a' := ?_) #[true, true, false, true, false, false, false, false, false] rfl rfl (any_of HT_.out (by kernel_rfl)) (fun _ _ _ h => h) (Or.inl ⟨by rfl, ?_⟩) ?_ ?_
      rotate_left
      · intro w'
        go_simp
        first | with_reducible rfl | (rw [own_len_N ?hl_ ?hu_]; (case hl_ => assumption); (case hu_ => kernel_rfl); (try with_reducible rfl)) | (rw [own_len_R ?hl_ ?hu_]; (case hl_ => assumption); (case hu_ => kernel_rfl); (try with_reducible rfl))
      rotate_left
      · simp only [Act.put, List.setIfInBounds_toArray, List.set_cons_zero, List.set_cons_succ, i64_w, i32_w]
        rfl
      refine pure_ (i := 4) (N := some 17) (v := ?_) (a' := ?_) #[true, true, false, true, true, false, false, false, false] rfl rfl (any_of HT_.out (by kernel_rfl)) (fun _ _ _ h => h) (Or.inl ⟨by rfl, ?_⟩) ?_ ?_
      rotate_left
      · intro w'
        go_simp
        first | with_reducible rfl | (rw [own_len_N ?hl_ ?hu_]; (case hl_ => assumption); (case hu_ => kernel_rfl); (try with_reducible rfl)) | (rw [own_len_R ?hl_ ?hu_]; (case hl_ => assumption); (case hu_ => kernel_rfl); (try with_reducible rfl))
      rotate_left
      · simp only [Act.put, List.setIfInBounds_toArray, List.set_cons_zero, List.set_cons_succ, i64_w, i32_w]
        rfl
      refine take_ (i := 2) (N := some 15) (v := ?_) (a' := ?_) #[true, true, true, true, true, false, false, false, false] rfl rfl (take_ofW HT_.out HW_.out (by kernel_rfl)) (fun _ _ _ h => h) (Or.inl ⟨by rfl, ?_⟩) hHeld ?_ ?_
      rotate_left
      · rintro w' ⟨s0, s1⟩
        go_simp
        with_reducible rfl
      rotate_left
      · simp only [Act.put, List.setIfInBounds_toArray, List.set_cons_zero, List.set_cons_succ, i64_w, i32_w]
        rfl
      refine take_ (i := 5) (N := some 18) (v := ?_) (a' := ?_) #[true, true, true, true, true, true, false, false, false] rfl rfl (take_ofW HT_.out HW_.out (by kernel_rfl)) (fun _ _ _ h => h) (Or.inl ⟨by rfl, ?_⟩) hHeld ?_ ?_
      rotate_left
      · rintro w' ⟨s0, s1⟩
        go_simp
        with_reducible rfl
      rotate_left
      · simp only [Act.put, List.setIfInBounds_toArray, List.set_cons_zero, List.set_cons_succ, i64_w, i32_w]
        rfl
      refine pure_ (i := 6) (N := some 19) (v := ?_) (a' := ?_) #[true, true, true, true, true, true, true, false, false] rfl rfl (any_of HT_.out (by kernel_rfl)) (fun _ _ _ h => h) (Or.inl ⟨by rfl, ?_⟩) ?_ ?_
      rotate_left
      · intro w'
        go_simp
        first | with_reducible rfl | (rw [own_len_N ?hl_ ?hu_]; (case hl_ => assumption); (case hu_ => kernel_rfl); (try with_reducible rfl)) | (rw [own_len_R ?hl_ ?hu_]; (case hl_ => assumption); (case hu_ => kernel_rfl); (try with_reducible rfl))
      rotate_left
      · simp only [Act.put, List.setIfInBounds_toArray, List.set_cons_zero, List.set_cons_succ, i64_w, i32_w]
        rfl
      refine pure_ (i := 7) (N := some 20) (v := ?_) (a' := ?_) #[true, true, true, true, true, true, true, true, false] rfl rfl (any_of HT_.out (by kernel_rfl)) (fun _ _ _ h => h) (Or.inl ⟨by rfl, ?_⟩) ?_ ?_
      rotate_left
      · intro w'
        go_simp
        first | with_reducible rfl | (rw [own_len_N ?hl_ ?hu_]; (case hl_ => assumption); (case hu_ => kernel_rfl); (try with_reducible rfl)) | (rw [own_len_R ?hl_ ?hu_]; (case hl_ => assumption); (case hu_ => kernel_rfl); (try with_reducible rfl))
      rotate_left
      · simp only [Act.put, List.setIfInBounds_toArray, List.set_cons_zero, List.set_cons_succ, i64_w, i32_w]
        rfl
      refine one_ (i := 8) (N := none) #[true, true, true, true, true, true, true, true, true] rfl rfl (one_of HT_.out (by kernel_rfl)) (by decide) (fun K hK => ?_)
      have hs11 : w10.cell? ⟨gb652, 0, none⟩ = some (.int .i64 0) := (blk_cell BK652.out 0).trans rfl
      have hfs11 := blk_frozen BK652.out 0
      have hs12 : w10.cell? ⟨gb652, 1, none⟩ = some (.int .i64 0) := (blk_cell BK652.out 1).trans rfl
      have hfs12 := blk_frozen BK652.out 1
      refine skip_ (w1 := ?_) (by rfl) rfl ?_ ?_
      rotate_left
      · go_simp
        rfl
      refine hK.out _ _ ⟨((cell_far (p := ⟨gb652, _, none⟩) (by first | exact Nat.ne_of_lt (Nat.lt_of_lt_of_le (by have := World.block_lt_of_cell? _ _ hw655_0; first | rwa [add_block] at this | exact this) GW652.out) | (rw [add_block]; exact Nat.ne_of_lt (Nat.lt_of_lt_of_le (by have := World.block_lt_of_cell? _ _ hw655_0; first | rwa [add_block] at this | exact this) GW652.out)) | (show (Addr.add _ _).block ≠ _; rw [add_block]; exact Nat.ne_of_lt (Nat.lt_of_lt_of_le (by have := World.block_lt_of_cell? _ _ hw655_0; first | rwa [add_block] at this | exact this) GW652.out)) | (dsimp only; exact Nat.ne_of_lt (Nat.lt_of_lt_of_le (by have := World.block_lt_of_cell? _ _ hw655_0; first | rwa [add_block] at this | exact this) GW652.out))) _).trans (((cell_far (p := ⟨gb652, _, none⟩) (by first | exact Nat.ne_of_lt (Nat.lt_of_lt_of_le (by have := World.block_lt_of_cell? _ _ hw655_0; first | rwa [add_block] at this | exact this) GW652.out) | (rw [add_block]; exact Nat.ne_of_lt (Nat.lt_of_lt_of_le (by have := World.block_lt_of_cell? _ _ hw655_0; first | rwa [add_block] at this | exact this) GW652.out)) | (show (Addr.add _ _).block ≠ _; rw [add_block]; exact Nat.ne_of_lt (Nat.lt_of_lt_of_le (by have := World.block_lt_of_cell? _ _ hw655_0; first | rwa [add_block] at this | exact this) GW652.out)) | (dsimp only; exact Nat.ne_of_lt (Nat.lt_of_lt_of_le (by have := World.block_lt_of_cell? _ _ hw655_0; first | rwa [add_block] at this | exact this) GW652.out))) _).trans (hHeld.1)))), ((cell_far (p := ⟨gb652, _, none⟩) (by first | exact Nat.ne_of_lt (Nat.lt_of_lt_of_le (by have := World.block_lt_of_cell? _ _ hw656_0; first | rwa [add_block] at this | exact this) GW652.out) | (rw [add_block]; exact Nat.ne_of_lt (Nat.lt_of_lt_of_le (by have := World.block_lt_of_cell? _ _ hw656_0; first | rwa [add_block] at this | exact this) GW652.out)) | (show (Addr.add _ _).block ≠ _; rw [add_block]; exact Nat.ne_of_lt (Nat.lt_of_lt_of_le (by have := World.block_lt_of_cell? _ _ hw656_0; first | rwa [add_block] at this | exact this) GW652.out)) | (dsimp only; exact Nat.ne_of_lt (Nat.lt_of_lt_of_le (by have := World.block_lt_of_cell? _ _ hw656_0; first | rwa [add_block] at this | exact this) GW652.out))) _).trans (((cell_far (p := ⟨gb652, _, none⟩) (by first | exact Nat.ne_of_lt (Nat.lt_of_lt_of_le (by have := World.block_lt_of_cell? _ _ hw656_0; first | rwa [add_block] at this | exact this) GW652.out) | (rw [add_block]; exact Nat.ne_of_lt (Nat.lt_of_lt_of_le (by have := World.block_lt_of_cell? _ _ hw656_0; first | rwa [add_block] at this | exact this) GW652.out)) | (show (Addr.add _ _).block ≠ _; rw [add_block]; exact Nat.ne_of_lt (Nat.lt_of_lt_of_le (by have := World.block_lt_of_cell? _ _ hw656_0; first | rwa [add_block] at this | exact this) GW652.out)) | (dsimp only; exact Nat.ne_of_lt (Nat.lt_of_lt_of_le (by have := World.block_lt_of_cell? _ _ hw656_0; first | rwa [add_block] at this | exact this) GW652.out))) _).trans (hHeld.2))))⟩ (fun hHeld => ?_)
      clear hK K
      refine done_ (done_of HT_.out (by kernel_rfl)) ?_
      try go_wp2
      refine bodyPost_ret (results_cell_row rfl _ _ gb652 85 #[.int .i64 (rd l0 0), .int .i64 (wrap64 ((rd l0 0) + 1))] (0, 0) _ rfl (by (with_reducible repeat (first | refine blk_drewN ?_ _ | refine blk_drew ?_ | refine blk_alloc ?_ _)); refine blk_put (cs := #[.int .i64 (rd l0 0), .int .i64 0]) ?_ 1 _ rfl; (with_reducible repeat (first | refine blk_drewN ?_ _ | refine blk_drew ?_ | refine blk_alloc ?_ _)); refine blk_put (cs := #[.int .i64 0, .int .i64 0]) ?_ 0 _ rfl; (with_reducible repeat (first | refine blk_drewN ?_ _ | refine blk_drew ?_ | refine blk_alloc ?_ _)); exact BK652.out) Tryd.underlying85 rfl (by kernel_rfl)) rfl ?_
      exact ⟨by first | rfl | (simp [errW_none, errW_some] <;> rfl) | (simp [*, errW_none, errW_some] <;> rfl), by repeat (first | (with_reducible first | exact HB.out | apply below_alloc | apply pw_below_drewN | apply below_drew1 | refine below_set ?_ GE652.out) | exact HB.out)⟩
    · rw [if_neg c8] at H
      exact absurd H (by simp)
end Go.Proofs.YtagkhoeidjlahaaDoor.G
